/- A part of the proof (joined by program from: TreeC, TreeD, VTree, TreeE, RefD, VLaw14, LawA, EndB, EndA, VScene, SceneA, SceneB). -/
import Derived.Test.YtimkdinmcbepnaaGreatDoorT12
import Derived.Test.YtimkdinmcbepnaaGreatDoorT5
import Derived.Test.YtimkdinmcbepnaaGreatDoorCards
import Derived.Test.YtimkdinmcbepnaaGreatDoorTie
import Derived.WalkKit
import Derived.ProofKit
import Derived.OpenShut
import Derived.Deep.DeepHandedRow
import Derived.LaidLaws
import Derived.Lay
import Derived.Carry
set_option linter.unusedVariables false
open Go.IntKind (i64 u64 u32)
/- Contracts: how package bsp writes a tree. -/
namespace Go.Proofs.Tryz
open Go.Eng Go.Big
theorem hideG_le {V:View} {P:Prop} {b:Nat}:(V.hideG P b).Le V:=fun x o h=>⟨fun hh=>h.1 (.inl hh),h.2⟩
theorem Acts.monoH {f:FuncId} {args:Array Value} {V:View} {R R':Value->View->Prop} (h:Acts prog f args V R) (hR:∀r V',V.Le V'->(∀b,V'.H b->V.H b)->R r V'->R' r V'):Acts prog f args V R':=
 ⟨h.1,h.2.mono fun _ w' ⟨r,he,hx,hr⟩=>⟨r,he,hx,hR r _ (V.le_to w' hx) (fun _ hb=>hb) hr⟩⟩
theorem vb_ne {vs:List Value} {n b:Nat} (h:vs≠[]):vb vs n b=b:=by cases vs with | nil=>exact absurd rfl h | cons v r=>rfl
theorem NR.push {V:View} {vs sp:List Value} {l:List Nd} (h:NR V vs l) (hl:l.length * 8<=vs.length) {ln:L3} {x y:Int} {b1:Bool} {p1:OA} {n1 c1:Nat} {b2:Bool} {p2:OA} {n2 c2:Nat} {b3:Bool} {p3:OA} {n3 c3:Nat}
  (hL:RL V (.agg #[.bool b1,.slice p1 n1 c1,.bool b2,.slice p2 n2 c2,.bool b3,.slice p3 n3 c3]) ln.1 ln.2.1 ln.2.2) :
  NR V (vs.take (l.length * 8)++[.bool b1,.slice p1 n1 c1,.bool b2,.slice p2 n2 c2,.bool b3,.slice p3 n3 c3,.int .i64 x,.int .i64 y]++sp) (l++[⟨ln,x,y⟩]):=by
 intro i d hd
 rcases Nat.lt_or_ge i l.length with hi | hi
 ·rw [List.getElem?_append_left hi] at hd
  obtain ⟨b1',p1',n1',c1',b2',p2',n2',c2',b3',p3',n3',c3',h1,h2⟩:=h i d hd
  refine ⟨b1',p1',n1',c1',b2',p2',n2',c2',b3',p3',n3',c3',fun j v hv=>?_,h2⟩
  have hj:j < 8:=by
   rcases Nat.lt_or_ge j 8 with hj | hj
   ·exact hj
   ·rw [List.getElem?_eq_none (by simpa using hj)] at hv; cases hv
  have:=h1 j v hv
  rw [List.append_assoc,List.getElem?_append_left (by rw [List.length_take]; omega),List.getElem?_take,if_pos (by omega)]
  exact this
 ·rw [List.getElem?_append_right hi] at hd
  have hi':i=l.length:=by
   rcases Nat.lt_or_ge (i - l.length) 1 with h' | h'
   ·omega
   ·rw [List.getElem?_eq_none (by simpa using h')] at hd; cases hd
  subst hi'
  simp only [Nat.sub_self,List.getElem?_cons_zero,Option.some.injEq] at hd
  subst hd
  refine ⟨b1,p1,n1,c1,b2,p2,n2,c2,b3,p3,n3,c3,fun j v hv=>?_,hL⟩
  have hj:j < 8:=by
   rcases Nat.lt_or_ge j 8 with hj | hj
   ·exact hj
   ·rw [List.getElem?_eq_none (by simpa using hj)] at hv; cases hv
  rw [List.append_assoc,List.getElem?_append_right (by rw [List.length_take]; omega),List.length_take,Nat.min_eq_left hl,Nat.add_sub_cancel_left,List.getElem?_append_left (by simpa using hj)]
  exact hv
theorem NR.set6 {V:View} {vs:List Value} {l:List Nd} (h:NR V vs l) {k:Nat} {d:Nd} (hd:l[k]?=some d) {x:Int}:NR V (vs.set (k * 8 + 6) (.int .i64 x)) (l.set k ⟨d.ln,x,d.right⟩):=by
 intro i d' hd'
 rw [List.getElem?_set] at hd'
 split at hd'
 ·rename_i e
  subst e
  split at hd'
  ·cases hd'
   obtain ⟨b1,p1,n1,c1,b2,p2,n2,c2,b3,p3,n3,c3,h1,h2⟩:=h k d hd
   refine ⟨b1,p1,n1,c1,b2,p2,n2,c2,b3,p3,n3,c3,fun j v hv=>?_,h2⟩
   rw [List.getElem?_set]
   by_cases hj:j=6
   ·subst hj
    have:=h1 6 _ rfl
    have hlt:k * 8 + 6 < vs.length:=by
     rcases Nat.lt_or_ge (k * 8 + 6) vs.length with h | h
     ·exact h
     ·rw [List.getElem?_eq_none h] at this; cases this
    rw [if_pos rfl,if_pos hlt]
    exact hv
   ·rw [if_neg (by omega)]
    refine h1 j v ?_
    match j,hj,hv with
    | 0,_,hv=>exact hv
    | 1,_,hv=>exact hv
    | 2,_,hv=>exact hv
    | 3,_,hv=>exact hv
    | 4,_,hv=>exact hv
    | 5,_,hv=>exact hv
    | 6,hj,_=>exact absurd rfl hj
    | 7,_,hv=>exact hv
    | n + 8,_,hv=>exact hv
  ·cases hd'
 ·rename_i e
  obtain ⟨b1,p1,n1,c1,b2,p2,n2,c2,b3,p3,n3,c3,h1,h2⟩:=h i d' hd'
  refine ⟨b1,p1,n1,c1,b2,p2,n2,c2,b3,p3,n3,c3,fun j v hv=>?_,h2⟩
  have hj:j < 8:=by
   rcases Nat.lt_or_ge j 8 with hj | hj
   ·exact hj
   ·rw [List.getElem?_eq_none (by simpa using hj)] at hv; cases hv
  rw [List.getElem?_set_ne (by omega)]
  exact h1 j v hv
theorem NR.set7 {V:View} {vs:List Value} {l:List Nd} (h:NR V vs l) {k:Nat} {d:Nd} (hd:l[k]?=some d) {x:Int}:NR V (vs.set (k * 8 + 7) (.int .i64 x)) (l.set k ⟨d.ln,d.left,x⟩):=by
 intro i d' hd'
 rw [List.getElem?_set] at hd'
 split at hd'
 ·rename_i e
  subst e
  split at hd'
  ·cases hd'
   obtain ⟨b1,p1,n1,c1,b2,p2,n2,c2,b3,p3,n3,c3,h1,h2⟩:=h k d hd
   refine ⟨b1,p1,n1,c1,b2,p2,n2,c2,b3,p3,n3,c3,fun j v hv=>?_,h2⟩
   rw [List.getElem?_set]
   by_cases hj:j=7
   ·subst hj
    have:=h1 7 _ rfl
    have hlt:k * 8 + 7 < vs.length:=by
     rcases Nat.lt_or_ge (k * 8 + 7) vs.length with h | h
     ·exact h
     ·rw [List.getElem?_eq_none h] at this; cases this
    rw [if_pos rfl,if_pos hlt]
    exact hv
   ·rw [if_neg (by omega)]
    refine h1 j v ?_
    match j,hj,hv with
    | 0,_,hv=>exact hv
    | 1,_,hv=>exact hv
    | 2,_,hv=>exact hv
    | 3,_,hv=>exact hv
    | 4,_,hv=>exact hv
    | 5,_,hv=>exact hv
    | 6,_,hv=>exact hv
    | 7,hj,_=>exact absurd rfl hj
    | n + 8,_,hv=>exact hv
  ·cases hd'
 ·rename_i e
  obtain ⟨b1,p1,n1,c1,b2,p2,n2,c2,b3,p3,n3,c3,h1,h2⟩:=h i d' hd'
  refine ⟨b1,p1,n1,c1,b2,p2,n2,c2,b3,p3,n3,c3,fun j v hv=>?_,h2⟩
  have hj:j < 8:=by
   rcases Nat.lt_or_ge j 8 with hj | hj
   ·exact hj
   ·rw [List.getElem?_eq_none (by simpa using hj)] at hv; cases hv
  rw [List.getElem?_set_ne (by omega)]
  exact h1 j v hv
/-- The two numbers of a node are put in. -/
theorem NR.kids {V:View} {vs:List Value} {l r:List Nd} {ln:L3} {u v x y:Int} (h:NR V vs (l++⟨ln,u,v⟩ :: r)):NR V ((vs.set (l.length * 8 + 6) (.int .i64 x)).set (l.length * 8 + 7) (.int .i64 y)) (l++⟨ln,x,y⟩ :: r):=by
 have e1:(l++(⟨ln,u,v⟩:Nd) :: r)[l.length]?=some ⟨ln,u,v⟩:=by simp
 have h1:=h.set6 e1 (x:=x)
 have e2:(l++(⟨ln,u,v⟩:Nd) :: r).set l.length ⟨ln,x,v⟩=l++⟨ln,x,v⟩ :: r:=by simp
 rw [e2] at h1
 have e3:(l++(⟨ln,x,v⟩:Nd) :: r)[l.length]?=some ⟨ln,x,v⟩:=by simp
 have h2:=h1.set7 e3 (x:=y)
 have e4:(l++(⟨ln,x,v⟩:Nd) :: r).set l.length ⟨ln,x,y⟩=l++⟨ln,x,y⟩ :: r:=by simp
 rw [e4] at h2
 exact h2
theorem NR.take {V:View} {vs:List Value} {l:List Nd} (h:NR V vs l):NR V (vs.take (l.length * 8)) l:=by
 intro i d hd
 obtain ⟨b1,p1,n1,c1,b2,p2,n2,c2,b3,p3,n3,c3,h1,h2⟩:=h i d hd
 refine ⟨b1,p1,n1,c1,b2,p2,n2,c2,b3,p3,n3,c3,fun j v hv=>?_,h2⟩
 have hj:j < 8:=by
  rcases Nat.lt_or_ge j 8 with hj | hj
  ·exact hj
  ·rw [List.getElem?_eq_none (by simpa using hj)] at hv; cases hv
 have hi:i < l.length:=by
  rcases Nat.lt_or_ge i l.length with h | h
  ·exact h
  ·rw [List.getElem?_eq_none h] at hd; cases hd
 rw [List.getElem?_take,if_pos (by omega)]
 exact h1 j v hv
/-- A moved row that is seen now. -/
theorem NS.ofRow {V:View} {b c:Nat} {vm:List Value} {l:List Nd} {ty:TypeId} (hb:vm≠[]->V.blk b (.cells vm.toArray ty (0,0))) (hc:l.length<=c) (hr:NR V vm l):NS V (mA b c) l.length c l:=by
 refine ⟨rfl,hc,⟨_,?_,hr.take⟩,?_⟩
 ·intro i v hv
  rw [List.getElem?_take] at hv
  split at hv
  ·rename_i hi
   have hne:vm≠[]:=fun e=>by rw [e] at hv; simp at hv
   refine ⟨⟨b,0,none⟩,by unfold mA; rw [if_neg (by omega)],?_⟩
   rw [add_zero']
   exact blk_at (hb hne) hv
  ·cases hv
 ·intro e
  unfold mA at e
  split at e
  ·assumption
  ·cases e
theorem c_bsp_API1:∀(t:Tr) {V:View} {p:OA} {ob nb wb:Nat} {root:Int} {n c:Nat} {vs:List Value} {l:List Nd},RT V p t->t.All Bd->n=l.length ->
  V.w.heap[ob]?=some (.cells #[.int .i64 root,.slice (mA nb c) n c] 89 (0,0))->V.X ob ->
  V.w.heap[wb]?=some (.cells #[.func (.func 243) #[] #[.pointer (some ⟨ob,0,none⟩),.pointer (some ⟨wb,0,none⟩)]] 318 (0,0))->V.X wb ->
  (vs≠[]->V.w.heap[nb]?=some (.cells vs.toArray 171 (0,0)))->(vs≠[]->V.X nb)->ob≠wb->(vs≠[]->ob≠nb)->(vs≠[]->wb≠nb)->n<=c->c * 8<=vs.length->NR V vs l->n + t.size<=1000000 ->
  Acts prog 243 #[.pointer p,.pointer (some ⟨ob,0,none⟩),.pointer (some ⟨wb,0,none⟩)] V fun r V'=>∃(bm:Nat) (vm:List Value) (c':Nat),(vm≠[]->V'.w.heap[bm]?=some (.cells vm.toArray 171 (0,0)))/\(vm≠[]->V.w.heap.size<=bm \/ (vs≠[]/\bm=nb)) /\
   r=.int .i64 (rt n t)/\V'.w.heap[ob]?=some (.cells #[.int .i64 root,.slice (mA bm c') (n + t.size) c'] 89 (0,0)) /\
   V'.w.heap[wb]?=some (.cells #[.func (.func 243) #[] #[.pointer (some ⟨ob,0,none⟩),.pointer (some ⟨wb,0,none⟩)]] 318 (0,0)) /\
   n + t.size<=c'/\c' * 8<=vm.length/\NR (V'.hideG (vm≠[]) bm) vm (l++wr n t):=by
 intro t
 induction t with
 | leaf i=>
  intro V p ob nb wb root n c vs l hp _ hn ho hxo hw hxw hv hxv h1 h2 h3 hnc hcv hnr hsz
  refine vc_bsp_T_API_1 p ob nb wb root n c vs V _ ho hxo hw hxw hv hxv h1 h2 h3 fun V1 l1=>(c_bsp_IsLeaf (hp.le l1)).mono ?_
  rintro r V2 l2 rfl
  obtain ⟨b,c0,c1,c2,c3,c4,c5,c6,c7,c8,q,rfl,hb⟩:=hp
  have hb2:=(l1.trans l2) _ _ hb
  have fin:∀(V3:View) (bk:Nat) (x:Int),V2.Le (V3.hideG (vs≠[]) bk)->V3.w.heap[ob]?=some (.cells #[.int .i64 root,.slice (mA bk c) n c] 89 (0,0)) ->
    V3.w.heap[wb]?=some (.cells #[.func (.func 243) #[] #[.pointer (some ⟨ob,0,none⟩),.pointer (some ⟨wb,0,none⟩)]] 318 (0,0))->(vs≠[]->V3.w.heap[bk]?=some (.cells vs.toArray 171 (0,0))) ->
    (vs≠[]->V.w.heap.size<=bk \/ (vs≠[]/\bk=nb) \/ False)->x=rt n (.leaf i)->∃(bm:Nat) (vm:List Value) (c':Nat),(vm≠[]->V3.w.heap[bm]?=some (.cells vm.toArray 171 (0,0)))/\(vm≠[]->V.w.heap.size<=bm \/ (vs≠[]/\bm=nb)) /\
   Value.int .i64 x=.int .i64 (rt n (.leaf i))/\V3.w.heap[ob]?=some (.cells #[.int .i64 root,.slice (mA bm c') (n + (Tr.leaf i).size) c'] 89 (0,0)) /\
   V3.w.heap[wb]?=some (.cells #[.func (.func 243) #[] #[.pointer (some ⟨ob,0,none⟩),.pointer (some ⟨wb,0,none⟩)]] 318 (0,0)) /\
   n + (Tr.leaf i).size<=c'/\c' * 8<=vm.length/\NR (V3.hideG (vm≠[]) bm) vm (l++wr n (.leaf i)):=by
   intro V3 bk x hle e1 e2 e3 e4 hx
   refine ⟨bk,vs,c,e3,fun h=>?_,by rw [hx],e1,e2,hnc,hcv,?_⟩
   ·rcases e4 h with h | h | h
    ·exact .inl h
    ·exact .inr h
    ·exact h.elim
   ·simp only [wr,List.append_nil]
    exact hnr.le ((l1.trans l2).trans hle)
  refine ⟨_,rfl,fun _=>⟨rfl,rfl,i,rdc hb2 11 rfl,fun hi V3 bk a1 a2 a3 a4 a5=>fin V3 bk _ a1 a2 a3 a4 a5 (by subst hi; rfl),fun hi V3 bk a1 a2 a3 a4 a5=>fin V3 bk _ a1 a2 a3 a4 a5 (by subst hi; rfl)⟩,fun h=>by cases h⟩
 | node ln x y ihx ihy=>
  intro V p ob nb wb root n c vs l hp hall hn ho hxo hw hxw hv hxv h1 h2 h3 hnc hcv hnr hsz
  simp only [Tr.size] at hsz
  obtain ⟨hbd,hax,hay⟩:=hall
  refine vc_bsp_T_API_1 p ob nb wb root n c vs V _ ho hxo hw hxw hv hxv h1 h2 h3 fun V1 l1=>(c_bsp_IsLeaf (hp.le l1)).mono ?_
  rintro r V2 l2 rfl
  have l02:=l1.trans l2
  obtain ⟨b,x1,x2,x3,y1,y2,y3,z1,z2,z3,pl,pr,i,rfl,hb,hl,hx,hy⟩:=hp
  refine ⟨_,rfl,(fun h=>by cases h),fun _=>⟨rfl,rfl,x1,x2,x3,y1,y2,y3,z1,z2,z3,?_⟩⟩
  have hb2:=l02 _ _ hb
  have hat:∀j v,([.int .i64 x1,.int .i64 x2,.pointer x3,.int .i64 y1,.int .i64 y2,.pointer y3,.int .i64 z1,.int .i64 z2,.pointer z3,.pointer pl,.pointer pr,.bool i]:List Value)[j]?=some v->V2.at ((⟨b,0,none⟩:Addr).add j) v:=by
   intro j v hv; rw [add_zero']; exact blk_at (xs:=[_,_,_,_,_,_,_,_,_,_,_,_]) hb2 hv
  obtain ⟨s1,s2,s3⟩:=hbd.sz
  refine ⟨⟨b,0,none⟩,rfl,hat 0 _ rfl,hat 1 _ rfl,hat 2 _ rfl,hat 3 _ rfl,hat 4 _ rfl,hat 5 _ rfl,hat 6 _ rfl,hat 7 _ rfl,hat 8 _ rfl,fun V5 l5=>(c_geo_API (hl.le (l02.trans l5)) s1 s2 s3 (by omega)).mono ?_⟩
  rintro r V6 l6 hRL
  have hRL0:=hRL
  obtain ⟨q1,m1,e1,q2,m2,e2,q3,m3,e3,rfl,-⟩:=hRL
  have l06:=l02.trans (l5.trans l6)
  refine ⟨_,_,_,_,_,_,_,_,_,_,_,_,rfl,by omega,hnc,hcv,rfl,by intro v hv; simp at hv; rcases hv with rfl | rfl | rfl | rfl | rfl | rfl | rfl | rfl <;> rfl,fun sp c' g1 g2=>?_⟩
  have hb6:=l06 _ _ hb
  refine ⟨rfl,rfl,pl,rdc hb6 9 rfl,fun V7 l7 bk1 bk2 bk3 f1 f2 f3 f4 f5 f6 f7 f8 f9=>?_⟩
  have hpush:=NR.push (sp:=sp) (x:=0) (y:=0) (hnr.le l06) (by omega) (ln:=ln) hRL0
  rw [← hn] at hpush
  generalize hrow:vs.take (n * 8)++([_,_,_,_,_,_,_,_]:List Value)++sp=row at f1 f2 f8 f9 hpush ⊢
  have hrl:row.length=n * 8 + 8 + sp.length:=by
   rw [← hrow]; simp only [List.length_append,List.length_take,List.length_cons,List.length_nil]; omega
  have hrne:row≠[]:=fun e=>by rw [e] at hrl; simp only [List.length_nil] at hrl; omega
  have l07:=l06.trans l7
  have i1:=ihx (V:=V7.lend [vb row V7.w.heap.size bk1,bk2,bk3]) (p:=pl) (ob:=bk2) (nb:=bk1) (wb:=bk3) (root:=root) (n:=n + 1) (c:=c') (vs:=row) (l:=l++[⟨ln,0,0⟩]) (RT.le (V:=V) (V':=V7.lend _) (fun b o h=>l07 b o h) hx) hax (by simp [hn]) f3 ⟨by simp,f4⟩ f5 ⟨by simp,f6⟩ f1 (fun h=>⟨by simp [vb_ne h],f2 h⟩) f7 (fun h=>(f8 h).symm) (fun h=>(f9 h).symm) g1 (by omega) (NR.le (V:=V6) (V':=V7.lend _) hpush fun b o h=>l7 b o h) (by omega)
  refine i1.mono ?_
  rintro r V8 l8 ⟨bm,vm,c1,a1,a2,rfl,a3,a4,a5,a6,a7⟩
  have l78:V7.Le V8:=fun b o h=>l8 b o h
  have l7h:V7.Le (V8.shut.hideG (vm≠[]) bm):=le_hideG (V':=V7) l78 (View.Le.refl V7) fun h=>(a2 h).imp id fun h'=>by rw [h'.2]; exact f2 hrne
  refine ⟨bm,vm,a1,a2,_,rfl,_,_,_,a3,a4,rfl,rfl,pr,rdc ((l07.trans l7h) _ _ hb) 10 rfl,fun V9 l9 bk4 bk5 bk6 d1 d2 d3 d4 d5 d6 d7 d8 d9=>?_⟩
  have hvmne:vm≠[]:=fun e=>by rw [e] at a6; simp at a6; omega
  have l09:V.Le V9:=(l07.trans l7h).trans l9
  have i2:=ihy (V:=V9.lend [vb vm V9.w.heap.size bk4,bk5,bk6]) (p:=pr) (ob:=bk5) (nb:=bk4) (wb:=bk6) (root:=root) (n:=n + 1 + x.size) (c:=c1) (vs:=vm) (l:=l++[⟨ln,0,0⟩]++wr (n + 1) x) (RT.le (V:=V) (V':=V9.lend _) (fun b o h=>l09 b o h) hy) hay (by simp [hn,wr_length]; omega) d3 ⟨by simp,d4⟩ d5 ⟨by simp,d6⟩ d1 (fun h=>⟨by simp [vb_ne h],d2 h⟩) d7 (fun h=>(d8 h).symm) (fun h=>(d9 h).symm) a5 a6 (NR.le (V:=V8.hideG (vm≠[]) bm) (V':=V9.lend _) a7 fun b o h=>l9 b o h) (by omega)
  refine i2.mono ?_
  rintro r V10 l10 ⟨bn,vn,c2,b1,b2,rfl,b3,b4,b5,b6,b7⟩
  have hs1:n < n + 1 + x.size + y.size:=by omega
  have hlen:n * 8 + 8<=vn.length:=by omega
  simp only [Int.toNat_natCast]
  refine ⟨bn,vn,b1,b2,_,rfl,_,_,_,b3,b4,⟨by omega,by omega⟩,b5,by omega,⟨by omega,by omega⟩,b5,by rw [List.length_set]; omega,fun V11 bk7 u1 u2 u3 u4 u5=>?_⟩
  have hfin:=NR.kids (V:=V10.hideG (vn≠[]) bn) (l:=l) (r:=wr (n + 1) x++wr (n + 1 + x.size) y) (ln:=ln) (u:=0) (v:=0) (x:=rt (n + 1) x) (y:=rt (n + 1 + x.size) y) (by simpa using b7)
  rw [← hn] at hfin
  refine ⟨bk7,_,c2,u4,fun h=>?_,rfl,by rw [show n + (Tr.node ln x y).size=n + 1 + x.size + y.size from by simp only [Tr.size]; omega]; exact u2,u3,by simp only [Tr.size]; omega,by simp only [List.length_set]; omega,?_⟩
  ·rcases u5 h with h | h | h
   ·exact .inl h
   ·exact .inr h
   ·exact h.elim
  ·simp only [wr]
   exact NR.le (V:=V10.hideG (vn≠[]) bn) hfin fun b o h=>u1 b o h
theorem c_bsp_API {V:View} {p:OA} {t:Tr} (h:RT V p t) (ha:t.All Bd) (hs:t.size<=1000000) :
  Acts prog 219 #[.pointer p] V fun r V'=>∃q n c,r=.agg #[.int .i64 (rt 0 t),.slice q n c]/\NS V' q n c (wr 0 t):=by
 refine vc_bsp_T_API p V _ fun V1 l1 bk1 bk2 g1 g2 g3 g4 g5=>?_
 refine Acts.monoH (c_bsp_API1 t (V:=V1.lend [bk1,bk2]) (nb:=0) (vs:=[]) (l:=[]) (n:=0) (c:=0) (RT.le (V:=V) (V':=V1.lend _) (fun b o h=>l1 b o h) h) ha rfl g1 ⟨by simp,g2⟩ g3 ⟨by simp,g4⟩ (fun h=>absurd rfl h) (fun h=>absurd rfl h) g5 (fun h=>absurd rfl h) (fun h=>absurd rfl h) (Nat.le_refl _) (Nat.le_refl _) (fun i d hd=>by simp at hd) (by omega)) ?_
 rintro r V2 l2 hH ⟨bm,vm,c',a1,a2,rfl,a3,a4,a5,a6,a7⟩
 refine ⟨_,rfl,_,_,_,_,a3,a4,fun V3 l3=>⟨_,_,_,rfl,?_⟩⟩
 simp only [List.nil_append,Nat.zero_add] at a7 a5 ⊢
 have l23:V2.Le V3:=fun b o h=>l3 b o h
 have:=NS.ofRow (V:=V3) (b:=bm) (c:=c') (vm:=vm) (l:=wr 0 t) (ty:=171) (fun hne=>l23 _ _ ⟨fun hh=>?_,a1 hne⟩) (by rw [wr_length]; exact a5) ((a7.le hideG_le).le l23)
 ·rw [wr_length] at this; exact this
 ·have h1:=V1.hH bm (hH bm hh)
  rcases a2 hne with h | h
  ·have h:V1.w.heap.size<=bm:=h
   omega
  ·exact h.1 rfl
end Go.Proofs.Tryz
/- Contracts: Size, Limited, Same of package bsp. -/
namespace Go.Proofs.Tryz
open Go.Eng Go.Big
theorem c_bsp_Size1 {V:View} {p:OA} {t:Tr} {kb:Nat} {k:Int} (h:RT V p t) (hw:V.w.heap[kb]?=some (.cells #[.int .i64 k] 3 (0,0))) (hx:V.X kb) (h0:0<=k) (h1:k<=1000000) :
  Acts prog 242 #[.pointer p,.pointer (some ⟨kb,0,none⟩)] V fun r V'=>r=.tuple #[]/\V'.w.heap[kb]?=some (.cells #[.int .i64 (k + if t.isLeaf then 0 else 1)] 3 (0,0)):=by
 refine vc_bsp_T_Size_1 p kb k V _ hw hx fun V1 l1=>(c_bsp_IsLeaf (h.le l1)).mono ?_
 rintro r V2 l2 rfl
 refine ⟨_,rfl,fun h2 V3 l3 e=>⟨rfl,?_⟩,fun h2 V4 l4 e=>⟨rfl,?_⟩⟩
 ·have h2:t.isLeaf=false:=by simpa using h2
  rw [i64w (by omega)] at e
  rw [h2]; exact e
 ·have h2:t.isLeaf=true:=by simpa using h2
  rw [h2]
  simpa using e
def szs:List Tr->Nat
 | []=>0
 | t :: r=>t.size + szs r
def nds:List Tr->Nat
 | []=>0
 | t :: r=>2 * t.size + 1 + nds r
theorem szs_append (a b:List Tr):szs (a++b)=szs a + szs b:=by
 induction a with
 | nil=>simp [szs]
 | cons t r ih=>simp only [List.cons_append,szs,ih]; omega
theorem nds_append (a b:List Tr):nds (a++b)=nds a + nds b:=by
 induction a with
 | nil=>simp [nds]
 | cons t r ih=>simp only [List.cons_append,nds,ih]; omega
/-- The stack holds trees. -/
def Stk (V:View) (vs:List Value) (ts:List Tr):Prop:=∀(i:Nat) (t:Tr),ts[i]?=some t->∃p,vs[i]?=some (.pointer p)/\RT V p t
theorem Stk.le {V V':View} {vs:List Value} {ts:List Tr} (h:Stk V vs ts) (l:V.Le V'):Stk V' vs ts:=fun i t ht=>by
 obtain ⟨p,h1,h2⟩:=h i t ht
 exact ⟨p,h1,h2.le l⟩
theorem nds_len (ts:List Tr):ts.length<=nds ts:=by
 induction ts with
 | nil=>simp [nds]
 | cons t r ih=>simp only [nds,List.length_cons]; omega
theorem Stk.popPush {V:View} {vs sp:List Value} {ts:List Tr} {x y:Tr} {p q:OA} {m:Nat} (h:Stk V vs ts) (hm:m<=ts.length) (hl:m<=vs.length) (hx:RT V p x) (hy:RT V q y) :
  Stk V (vs.take m++[.pointer p,.pointer q]++sp) (ts.take m++[x,y]):=by
 intro i t ht
 rcases Nat.lt_or_ge i m with hi | hi
 ·rw [List.getElem?_append_left (by rw [List.length_take]; omega),List.getElem?_take,if_pos hi] at ht
  obtain ⟨r,h1,h2⟩:=h i t ht
  refine ⟨r,?_,h2⟩
  rw [List.append_assoc,List.getElem?_append_left (by rw [List.length_take]; omega),List.getElem?_take,if_pos hi]
  exact h1
 ·rw [List.getElem?_append_right (by rw [List.length_take]; omega),List.length_take,Nat.min_eq_left hm] at ht
  obtain ⟨j,rfl⟩:∃j,i=m + j:=⟨i - m,by omega⟩
  rw [Nat.add_sub_cancel_left] at ht
  have e:∀v,([.pointer p,.pointer q]:List Value)[j]?=some v->(vs.take m++[.pointer p,.pointer q]++sp)[m + j]?=some v:=by
   intro v hv
   have hj:j < 2:=by
    rcases Nat.lt_or_ge j 2 with hj | hj
    ·exact hj
    ·rw [List.getElem?_eq_none (by simpa using hj)] at hv; cases hv
   rw [List.append_assoc,List.getElem?_append_right (by rw [List.length_take]; omega),List.length_take,Nat.min_eq_left hl,Nat.add_sub_cancel_left,List.getElem?_append_left (by simpa using hj)]
   exact hv
  match j,ht,e with
  | 0,ht,e=>cases ht; exact ⟨p,e _ rfl,hx⟩
  | 1,ht,e=>cases ht; exact ⟨q,e _ rfl,hy⟩
  | n + 2,ht,_=>cases ht
theorem c_bsp_Each_Size {V:View} {p:OA} {t:Tr} {kb:Nat} (h:RT V p t) (hs:t.size<=400000) (hw:V.w.heap[kb]?=some (.cells #[.int .i64 0] 3 (0,0))) (hx:V.X kb) :
  Acts prog 113 #[.pointer p,.func (.func 242) #[] #[.pointer (some ⟨kb,0,none⟩)]] V fun r V'=>r=.tuple #[]/\V'.w.heap[kb]?=some (.cells #[.int .i64 (t.size:Int)] 3 (0,0)):=by
 refine vc_bsp_T_Each_Size p kb 0 V _ hw hx ⟨fun z k V'=>∃ts:List Tr,z.1=ts.length/\z.1<=z.2.1/\z.2.1<=z.2.2.1.length/\Stk V' z.2.2.1 ts/\z.2.2.2 + (szs ts:Int)=(t.size:Int)/\0<=z.2.2.2/\k=nds ts/\k<=2 * t.size + 1,
  ⟨(1,1,[.pointer p],0),2 * t.size + 1,⟨by (try dsimp only); and_intros <;> first | rfl | trivial | omega,[t],rfl,Nat.le_refl _,Nat.le_refl _,?_,by simp [szs],Int.le_refl _,by simp [nds],Nat.le_refl _⟩⟩,?_⟩
 ·intro i x hx
  match i,hx with
  | 0,hx=>cases hx; exact ⟨p,rfl,h⟩
  | n + 1,hx=>cases hx
 ·rintro ⟨n,c,vs,k⟩ m V1 l1 ⟨ts,h1,h2,h3,hst,h4,h5,h6,h7⟩
  dsimp only at h1 h2 h3 hst h4 h5 ⊢
  have hnl:=nds_len ts
  refine ⟨by trivial,fun g1=>?_,fun g1 V6 l6 e=>?_⟩
  ·have g1:0 < n:=by simpa using g1
   have w1:i64.wrap ((n:Int) - 1)=((n - 1:Nat):Int):=by rw [i64w (by omega)]; omega
   rw [w1]
   simp only [Int.toNat_natCast,Nat.mul_one]
   have hlt:n - 1 < ts.length:=by omega
   obtain ⟨q,hq1,hq2⟩:=hst (n - 1) ts[n - 1] (List.getElem?_eq_getElem hlt)
   have hts:ts=ts.take (n - 1)++[ts[n - 1]]:=by
    rw [List.take_append_getElem hlt,List.take_of_length_le (by omega)]
   generalize ts[n - 1]=x at hq2 hts
   have e1:szs ts=szs (ts.take (n - 1)) + x.size:=by
    conv=>lhs; rw [hts]
    rw [szs_append]; simp [szs]
   have e2:nds ts=nds (ts.take (n - 1)) + (2 * x.size + 1):=by
    conv=>lhs; rw [hts]
    rw [nds_append]; simp [nds]
   refine ⟨⟨by omega,by omega⟩,h2,q,hq1,⟨by omega,by omega⟩,fun V2 l2 bk f1 f2=>(c_bsp_Size1 (V:=V2.lend [bk]) (RT.le (V:=V1) (V':=V2.lend _) (fun b o h=>l2 b o h) hq2) f1 ⟨by simp,f2⟩ h5 (by omega)).mono ?_⟩
   rintro r V3 l3 ⟨rfl,f3⟩
   refine ⟨rfl,_,f3,fun V4 l4=>?_⟩
   have l14:V1.Le V4:=fun b o h=>l4 b o (l3 b o (l2 b o h))
   refine (c_bsp_IsLeaf (hq2.le l14)).mono ?_
   rintro r V5 l5 rfl
   refine ⟨_,rfl,fun g2=>?_,fun g2=>?_⟩
   ·have g2:x.isLeaf=false:=by simpa using g2
    cases x with
    | leaf i=>cases g2
    | node ln a b=>
     obtain ⟨bb,x1,x2,x3,y1,y2,y3,z1,z2,z3,pl,pr,i,rfl,hb,hl,ha,hbb⟩:=hq2
     have hb5:=(l14.trans l5) _ _ hb
     simp only [Tr.size] at e1 e2
     refine ⟨rfl,rfl,pr,rdc hb5 10 rfl,rfl,rfl,pl,rdc hb5 9 rfl,by omega,by omega,by omega,rfl,by intro v hv; simp at hv; rcases hv with rfl | rfl <;> rfl,fun sp c' k1 k2=>?_⟩
     refine ⟨(n - 1 + 2,c',_,_),nds (ts.take (n - 1)) + (2 * a.size + 1) + (2 * b.size + 1),by omega,⟨by (try dsimp only); and_intros <;> first | rfl | trivial,ts.take (n - 1)++[b,a],?_,k1,?_,(hst.le (l14.trans l5)).popPush (by omega) (by omega) (hbb.le (l14.trans l5)) (ha.le (l14.trans l5)),?_,?_,?_,by omega⟩⟩
     ·simp; omega
     ·dsimp only; simp only [List.length_append,List.length_take,List.length_cons,List.length_nil]; omega
     ·rw [szs_append]; simp [szs,Tr.isLeaf]; omega
     ·simp [Tr.isLeaf]; omega
     ·rw [nds_append]; simp [nds]; omega
   ·have g2:x.isLeaf=true:=by simpa using g2
    cases x with
    | node ln a b=>cases g2
    | leaf i=>
     simp only [Tr.size] at e1 e2
     refine ⟨(n - 1,c,vs,_),nds (ts.take (n - 1)),by omega,⟨by (try dsimp only); and_intros <;> first | rfl | trivial,ts.take (n - 1),?_,by dsimp only; omega,h3,fun i t hi=>?_,?_,?_,rfl,by omega⟩⟩
     ·simp; omega
     ·rw [List.getElem?_take] at hi
      split at hi
      ·exact (hst.le (l14.trans l5)) i t hi
      ·cases hi
     ·simp [Tr.isLeaf]; omega
     ·simp [Tr.isLeaf]; omega
  ·have g1:n=0:=by simpa using g1
   refine ⟨rfl,?_⟩
   have:ts=[]:=List.length_eq_zero_iff.1 (by omega)
   subst this
   simp only [szs] at h4
   have:k=(t.size:Int):=by omega
   rw [← this]
   exact e
theorem c_bsp_Size {V:View} {p:OA} {t:Tr} (h:RT V p t) (hs:t.size<=400000):Acts prog 218 #[.pointer p] V fun r V'=>r=.int .i64 (t.size:Int):=by
 refine vc_bsp_T_Size p V _ fun V1 l1 bk g1 g2=>(c_bsp_Each_Size (V:=V1.lend [bk]) (RT.le (V:=V) (V':=V1.lend _) (fun b o h=>l1 b o h) h) hs g1 ⟨by simp,g2⟩).mono ?_
 rintro r V2 l2 ⟨rfl,e⟩
 exact ⟨rfl,_,e,fun V3 l3=>rfl⟩
/-- A tree of package api. -/
def AT (V:View) (v:Value) (root:Int) (l:List Nd):Prop:=∃q n c,v=.agg #[.int .i64 root,.slice q n c]/\NS V q n c l
theorem AT.le {V V':View} {v:Value} {root:Int} {l:List Nd} (h:AT V v root l) (hl:V.Le V'):AT V' v root l:=by
 obtain ⟨q,n,c,e,h⟩:=h; exact ⟨q,n,c,e,h.le hl⟩
theorem AT.zero {V:View}:AT V (.agg #[.int .i64 0,.slice none 0 0]) 0 []:=⟨_,_,_,rfl,NS.nil⟩
theorem c_bsp_Limited {V:View} {p:OA} {t:Tr} (h:RT V p t) (ha:t.All Bd) (hs:t.size<=400000) {y:Value} (hy:Sent V 2 y) :
  Acts prog 172 #[.pointer p] V fun r V'=>∃v e,r=.tuple #[v,e]/\(if 65536 < t.size then v=.agg #[.int .i64 0,.slice none 0 0]/\e=y else AT V' v (rt 0 t) (wr 0 t)/\e=.nilIface):=by
 refine vc_bsp_T_Limited p V _ fun V1 l1=>(c_bsp_Size (h.le l1) hs).mono ?_
 rintro r V2 l2 rfl
 have l02:=l1.trans l2
 refine ⟨_,rfl,fun g=>⟨y,⟨_,rfl,hy.le l02⟩,fun V3 l3=>⟨_,_,rfl,?_⟩⟩,fun g V4 l4=>(c_bsp_API (h.le (l02.trans l4)) ha (by omega)).mono ?_⟩
 ·have g:65536 < t.size:=by simp at g; omega
  rw [if_pos g]; exact ⟨rfl,rfl⟩
 ·have g:¬ 65536 < t.size:=by simp at g; omega
  rintro r V5 l5 ⟨q,n,c,rfl,hns⟩
  refine ⟨_,_,_,_,rfl,fun V6 l6=>⟨_,_,rfl,?_⟩⟩
  rw [if_neg g]
  exact ⟨⟨_,_,_,rfl,hns.le l6⟩,rfl⟩
end Go.Proofs.Tryz
/- By program: the conditions of the functions, from their loaded code. -/
namespace Go.Proofs.Tryz
open Go.Eng
open Go.Value renaming int→I,pointer→P,slice→S,agg→A,bool→B,tuple→T
open Go.IntKind renaming i64→J,u64→U,u32→W
set_option maxRecDepth 100000
theorem vc_tree_Valid (a:Int) (b:OA) (c d:Nat) (V:View) (R:VR) (h:(Ca V 111 #[A #[I J a,S b c d]] fun g i=>∃k,∃e,g=T #[P k,B e]/\(Rt i R (B e)))):
 Acts prog 110 #[A #[I J a,S b c d]] V R:=
 fd (LF:=LF0) (RF:=[1000010]) [] [] func110 h
theorem vc_tree_Leaf (a:Int) (V:View) (R:VR) (h:(((a != (-2:Int))=true->(((a != (-1:Int))=true->(∃b,(∃c,(some ⟨1,0,none⟩:OA)=some c/\V.at c (b))/\(Rt V R (T #[A #[I J 0,S none 0 0],b]))))/\((a != (-1:Int))=false->(Rt V R (T #[A #[I J a,S none 0 0],.nilIface])))))/\((a != (-2:Int))=false->(Rt V R (T #[A #[I J a,S none 0 0],.nilIface]))))):
 Acts prog 120 #[I J a] V R:=
 fd (LF:=LF0) (RF:=[1000010]) [] [] func120 h
theorem vc_tree_Join (e:Bool) (f:OA) (g i:Nat) (k:Bool) (l:OA) (m n:Nat) (o:Bool) (p:OA) (q r:Nat) (s:Int) (t:OA) (u w:Nat) (x:Int) (y:OA) (z a0:Nat) (V:View) (R:VR) (h:(Ca V 170 #[A #[B e,S f g i,B k,S l m n,B o,S p q r]] fun c8 c9=>∃a1,∃a2,∃a3,∃a4,∃a5,∃a6,∃a7,∃a8,∃a9,∃b,c8=T #[A #[I J a1,I J a2,P a3,I J a4,I J a5,P a6,I J a7,I J a8,P a9],B b]/\(Ca c9 111 #[A #[I J s,S t u w]] fun d0 d1=>∃b0,∃c,d0=T #[P b0,B c]/\(Ca d1 111 #[A #[I J x,S y z a0]] fun d2 a=>∃b1,∃d,d2=T #[P b1,B d]/\(((!b)=true->(∃b2,(∃b3,(some ⟨1,0,none⟩:OA)=some b3/\a.at b3 (b2))/\(Rt a R (T #[A #[I J 0,S none 0 0],b2]))))/\((!b)=false->(((!c)=true->(∃b5,(∃b6,(some ⟨1,0,none⟩:OA)=some b6/\a.at b6 (b5))/\(Rt a R (T #[A #[I J 0,S none 0 0],b5]))))/\((!c)=false->(((!d)=true->(∃b8,(∃b9,(some ⟨1,0,none⟩:OA)=some b9/\a.at b9 (b8))/\(Rt a R (T #[A #[I J 0,S none 0 0],b8]))))/\((!d)=false->(Ca a 171 #[A #[I J a1,I J a2,P a3,I J a4,I J a5,P a6,I J a7,I J a8,P a9],P b0,P b1] fun d3 d4=>∃c1,d3=P c1/\(Ca d4 172 #[P c1] fun d5 d6=>∃c2,∃c3 c4 c5,∃c6,d5=T #[A #[I J c2,S c3 c4 c5],c6]/\(Rt d6 R (T #[A #[I J c2,S c3 c4 c5],c6])))))))))))))):
 Acts prog 121 #[A #[B e,S f g i,B k,S l m n,B o,S p q r],A #[I J s,S t u w],A #[I J x,S y z a0]] V R:=
 fd (LF:=LF0) (RF:=[1000010]) [] [] func121 h
end Go.Proofs.Tryz
/- Contracts of package tree. -/
namespace Go.Proofs.Tryz
open Go.Eng Go.Big
theorem c_bsp_Of' {V:View} {l:List Nd} (hb:∀x ∈ l,Bd x.ln) {v:Value} {root:Int} (h:AT V v root l) :
  Acts prog 111 #[v] V fun r V'=>∃q,r=.tuple #[.pointer q,.bool (ofT l root).isSome]/\∀t,ofT l root=some t->RT V' q t:=by
 obtain ⟨p,n,c,rfl,h⟩:=h
 refine (c_bsp_Of hb root h).mono ?_
 rintro r V' _ ⟨h1,h2⟩
 cases e:ofT l root with
 | none=>obtain ⟨q,rfl⟩:=h1 e; exact ⟨q,rfl,fun t ht=>by cases ht⟩
 | some t=>obtain ⟨q,rfl,hq⟩:=h2 t e; exact ⟨q,rfl,fun t' ht=>by cases ht; exact hq⟩
theorem c_tree_Valid {V:View} {l:List Nd} (hb:∀x ∈ l,Bd x.ln) {v:Value} {root:Int} (h:AT V v root l) :
  Acts prog 110 #[v] V fun r V'=>r=.bool (ofT l root).isSome:=by
 have h0:=h
 obtain ⟨p,n,c,rfl,-⟩:=h
 refine vc_tree_Valid root p n c V _ fun V1 l1=>(c_bsp_Of' hb (h0.le l1)).mono ?_
 rintro r V2 l2 ⟨q,rfl,-⟩
 exact ⟨_,_,rfl,fun V3 l3=>rfl⟩
theorem c_tree_Leaf {V:View} (code:Int) {y:Value} (hy:Sent V 1 y) :
  Acts prog 120 #[.int .i64 code] V fun r V'=>∃v e,r=.tuple #[v,e]/\(if code=-2 \/ code=-1 then v=.agg #[.int .i64 code,.slice none 0 0]/\e=.nilIface else v=.agg #[.int .i64 0,.slice none 0 0]/\e=y):=by
 refine vc_tree_Leaf code V _ ⟨fun h1=>⟨fun h2=>⟨y,⟨_,rfl,hy⟩,fun V1 l1=>⟨_,_,rfl,?_⟩⟩,fun h2 V2 l2=>⟨_,_,rfl,?_⟩⟩,fun h1 V3 l3=>⟨_,_,rfl,?_⟩⟩
 ·have h1:¬ code=-2:=by simpa using h1
  have h2:¬ code=-1:=by simpa using h2
  rw [if_neg (by omega)]; exact ⟨rfl,rfl⟩
 ·have h2:code=-1:=by simpa using h2
  rw [if_pos (by omega)]; exact ⟨rfl,rfl⟩
 ·have h1:code=-2:=by simpa using h1
  rw [if_pos (by omega)]; exact ⟨rfl,rfl⟩
/-- What Join gives. -/
def joinT (x:L3) (a b:Option Tr):Option Tr:=
 match a,b with
 | some a,some b=>if okL x=true then some (.node x a b) else none
 | _,_=>none
theorem c_tree_Join {V:View} {u v w:Value} {x:L3} {r1 r2:Int} {l1 l2:List Nd} (hx:RL V u x.1 x.2.1 x.2.2) (hbx:Bd x) (h1:AT V v r1 l1) (h2:AT V w r2 l2) (hb1:∀x ∈ l1,Bd x.ln) (hb2:∀x ∈ l2,Bd x.ln)
  {y z:Value} (hy:Sent V 1 y) (hz:Sent V 2 z) :
  Acts prog 121 #[u,v,w] V fun r V'=>∃o e,r=.tuple #[o,e]/\(joinT x (ofT l1 r1) (ofT l2 r2)=none->o=.agg #[.int .i64 0,.slice none 0 0]/\e=y) /\
   (∀t,joinT x (ofT l1 r1) (ofT l2 r2)=some t->if 65536 < t.size then o=.agg #[.int .i64 0,.slice none 0 0]/\e=z else AT V' o (rt 0 t) (wr 0 t)/\e=.nilIface):=by
 have hx0:=hx
 have h10:=h1
 have h20:=h2
 obtain ⟨p1,n1,c1,p2,n2,c2,p3,n3,c3,rfl,-⟩:=hx
 obtain ⟨q1,m1,d1,rfl,-⟩:=h1
 obtain ⟨q2,m2,d2,rfl,-⟩:=h2
 refine vc_tree_Join _ p1 n1 c1 _ p2 n2 c2 _ p3 n3 c3 r1 q1 m1 d1 r2 q2 m2 d2 V _ fun V1 k1=>(c_geo_LnOf' (hx0.le k1) hbx).mono ?_
 rintro r V2 k2 ⟨ww,rfl,⟨x1,x2,x3,y1,y2,y3,z1,z2,z3,rfl⟩,hw⟩
 have k02:=k1.trans k2
 refine ⟨_,_,_,_,_,_,_,_,_,_,rfl,fun V3 k3=>(c_bsp_Of' hb1 (h10.le (k02.trans k3))).mono ?_⟩
 rintro r V4 k4 ⟨a,rfl,ha⟩
 have k04:=k02.trans (k3.trans k4)
 refine ⟨_,_,rfl,fun V5 k5=>(c_bsp_Of' hb2 (h20.le (k04.trans k5))).mono ?_⟩
 rintro r V6 k6 ⟨b,rfl,hb⟩
 have k06:=k04.trans (k5.trans k6)
 have fin:∀V7:View,joinT x (ofT l1 r1) (ofT l2 r2)=none->∃o e,Value.tuple #[.agg #[.int .i64 0,.slice none 0 0],y]=.tuple #[o,e]/\(joinT x (ofT l1 r1) (ofT l2 r2)=none->o=.agg #[.int .i64 0,.slice none 0 0]/\e=y) /\
   (∀t,joinT x (ofT l1 r1) (ofT l2 r2)=some t->if 65536 < t.size then o=.agg #[.int .i64 0,.slice none 0 0]/\e=z else AT V7 o (rt 0 t) (wr 0 t)/\e=.nilIface):=by
  intro V7 h
  exact ⟨_,_,rfl,fun _=>⟨rfl,rfl⟩,fun t ht=>by rw [h] at ht; cases ht⟩
 refine ⟨_,_,rfl,fun g1=>⟨y,⟨_,rfl,hy.le k06⟩,fun V7 k7=>fin V7 ?_⟩,fun g1=>⟨fun g2=>⟨y,⟨_,rfl,hy.le k06⟩,fun V8 k8=>fin V8 ?_⟩,fun g2=>⟨fun g3=>⟨y,⟨_,rfl,hy.le k06⟩,fun V9 k9=>fin V9 ?_⟩,fun g3 V10 k10=>?_⟩⟩⟩
 ·have g1:okL x=false:=by simpa using g1
  unfold joinT
  split
  ·rw [g1]; rfl
  ·rfl
 ·have g2:ofT l1 r1=none:=by simpa using g2
  unfold joinT; rw [g2]
 ·have g3:ofT l2 r2=none:=by simpa using g3
  unfold joinT; rw [g3]; split <;> first | rfl | (rename_i h; cases h)
 ·have g1:okL x=true:=by simpa using g1
  have g2:(ofT l1 r1).isSome=true:=by simpa using g2
  have g3:(ofT l2 r2).isSome=true:=by simpa using g3
  obtain ⟨s,hs⟩:=Option.isSome_iff_exists.1 g2
  obtain ⟨t,ht⟩:=Option.isSome_iff_exists.1 g3
  have ls:V2.Le V10:=k3.trans (k4.trans (k5.trans (k6.trans k10)))
  refine (c_bsp_New ((hw g1).le ls) ((ha s hs).le (k5.trans (k6.trans k10))) ((hb t ht).le k10)).mono ?_
  have hj:joinT x (ofT l1 r1) (ofT l2 r2)=some (.node x s t):=by unfold joinT; rw [hs,ht,g1]; rfl
  rintro r V11 k11 ⟨p,rfl,hp⟩
  have hall1:=ofT_all hb1 hs
  have hall2:=ofT_all hb2 ht
  have ss:=ofT_size hs
  have st:=ofT_size ht
  refine ⟨p,rfl,fun V12 k12=>(c_bsp_Limited (hp.le k12) ⟨hbx,hall1,hall2⟩ (by simp only [Tr.size]; omega) (hz.le (k06.trans (k10.trans (k11.trans k12))))).mono ?_⟩
  rintro r V13 k13 ⟨o,e,rfl,ho⟩
  rw [hj]
  by_cases hbig:65536 < (Tr.node x s t).size
  ·rw [if_pos hbig] at ho
   obtain ⟨rfl,rfl⟩:=ho
   refine ⟨_,_,_,_,_,rfl,fun V14 k14=>⟨_,_,rfl,(fun h=>by cases h),fun u hu=>?_⟩⟩
   cases hu
   rw [if_pos hbig]; exact ⟨rfl,rfl⟩
  ·rw [if_neg hbig] at ho
   obtain ⟨ho,rfl⟩:=ho
   have ho0:=ho
   obtain ⟨q,n,c,rfl,-⟩:=ho
   refine ⟨_,_,_,_,_,rfl,fun V14 k14=>⟨_,_,rfl,(fun h=>by cases h),fun u hu=>?_⟩⟩
   cases hu
   rw [if_neg hbig]; exact ⟨ho0.le k14,rfl⟩
end Go.Proofs.Tryz
/- Contracts of the reference 04: Through. -/
namespace Go.Proofs.Tryz
open Go.Eng Go.Big
theorem RQ.ofNat {V:View} {p:OA} {n c x:Nat} (h:RN V p n c x) {b:Bool} (hb:b=decide ((x:Int) < 0)):RQ V (.agg #[.bool b,.slice p n c,.slice none 0 0]) ((x:Int):Rat):=
 rq_of (z:=(x:Int)) (d:=1) rfl rfl h RD.nil hb
theorem RQ.int {V:View} {q:Rat} {b:Bool} {p:OA} {n c:Nat} {p':OA} {n' c':Nat} (h:RQ V (.agg #[.bool b,.slice p n c,.slice p' n' c']) q):RI V (.agg #[.bool b,.slice p n c]) q.num:=by
 obtain ⟨p1,n1,c1,p2,n2,c2,e,h1,h2⟩:=h
 cases e
 exact ⟨_,_,_,rfl,h1⟩
theorem RQ.den {V:View} {q:Rat} {b:Bool} {p:OA} {n c:Nat} {p':OA} {n' c':Nat} (h:RQ V (.agg #[.bool b,.slice p n c,.slice p' n' c']) q):RD V p' n' c' (dend q.den):=by
 obtain ⟨p1,n1,c1,p2,n2,c2,e,h1,h2⟩:=h
 cases e
 exact h2
/-- The coefficients that Through hands to MakeL. -/
def thr (px py qx qy:Rat):Rat × Rat × Rat:=
 let a:=-(qy - py); let b:=qx - px; let c:=-(a * px + b * py)
 let f:Rat:=(((a.den * b.den * c.den:Nat):Int):Rat)
 (a * f,b * f,c * f)
theorem sz_nat {n k:Nat} (h:n < 2 ^ k) (hk:0 < k):Sz k (((n:Nat):Int):Rat):=by
 refine ⟨?_,?_⟩
 ·show ((n:Nat):Int).natAbs < _
  simpa using h
 ·show 1 < 2 ^ k
  exact Nat.one_lt_two_pow (by omega)
theorem c_ref04_Through {V:View} {u w:Value} {px py qx qy:Rat} (hp:RP V u px py) (hq:RP V w qx qy) {k:Nat} (s1:Sz k px) (s2:Sz k py) (s3:Sz k qx) (s4:Sz k qy) (hk1:1<=k) (hk:64 * k + 64 < 274877906944) :
  Acts prog 118 #[u,w] V fun r V'=>((thr px py qx qy).1.num=0/\(thr px py qx qy).2.1.num=0->∃l,r=.tuple #[l,.bool false]/\RL V' l 0 0 0) /\
   (¬ ((thr px py qx qy).1.num=0/\(thr px py qx qy).2.1.num=0)->∃l,r=.tuple #[l,.bool true] /\
    RL V' l ((thr px py qx qy).1.num / (gcd3 (thr px py qx qy).1.num (thr px py qx qy).2.1.num (thr px py qx qy).2.2.num:Int)) ((thr px py qx qy).2.1.num / (gcd3 (thr px py qx qy).1.num (thr px py qx qy).2.1.num (thr px py qx qy).2.2.num:Int)) ((thr px py qx qy).2.2.num / (gcd3 (thr px py qx qy).1.num (thr px py qx qy).2.1.num (thr px py qx qy).2.2.num:Int))):=by
 have hp0:=hp
 have hq0:=hq
 obtain ⟨p1,n1,c1,p2,n2,c2,p3,n3,c3,p4,n4,c4,rfl,hp1,hp2⟩:=hp
 obtain ⟨q1,m1,e1,q2,m2,e2,q3,m3,e3,q4,m4,e4,rfl,-,-⟩:=hq
 refine vc_ref04_Through _ p1 n1 c1 p2 n2 c2 _ p3 n3 c3 p4 n4 c4 _ q1 m1 e1 q2 m2 e2 _ q3 m3 e3 q4 m4 e4 V _ fun V1 l1=>(c_ref04_Sub (hq0.le l1) (hp0.le l1) s3 s4 s1 s2 hk1 (by omega)).mono ?_
 rintro r V2 l2 ⟨a1,a2,a3,a4,a5,a6,a7,a8,a9,a10,a11,a12,rfl,hb,hd⟩
 have tb:Sz (k + k + 1) (qx - px):=s3.sub s1
 have td:Sz (k + k + 1) (qy - py):=s4.sub s2
 have l02:=l1.trans l2
 refine ⟨_,_,_,_,_,_,_,_,_,_,_,_,_,_,rfl,fun V3 l3=>(c_num_Opp (qy - py) (by obtain ⟨_,_,_,_,_,_,e,h1,h2⟩:=hd.le l3; cases e; exact h1) (RQ.den (hd.le l3))).mono ?_⟩
 rintro r V4 l4 ha
 obtain ⟨b1,b2,b3,b4,b5,b6,rfl⟩:=ha.shape
 have ta:=td.neg
 have hthr:thr px py qx qy=(-(qy - py) * (((((-(qy - py)).den * (qx - px).den * (-(-(qy - py) * px + (qx - px) * py)).den:Nat):Int):Rat)),(qx - px) * (((((-(qy - py)).den * (qx - px).den * (-(-(qy - py) * px + (qx - px) * py)).den:Nat):Int):Rat)),(-(-(qy - py) * px + (qx - px) * py)) * (((((-(qy - py)).den * (qx - px).den * (-(-(qy - py) * px + (qx - px) * py)).den:Nat):Int):Rat))):=rfl
 rw [hthr]
 generalize -(qy - py)=A at *
 generalize qx - px=B at *
 replace hb:=hb.le (l3.trans l4)
 replace hp1:=hp1.le (l02.trans (l3.trans l4))
 replace hp2:=hp2.le (l02.trans (l3.trans l4))
 refine ⟨_,_,_,_,_,_,_,rfl,fun V5 l5=>(c_num_Times (ha.le l5) (hp1.le l5) ta s1 (by omega)).mono ?_⟩
 rintro r V6 l6 g6
 obtain ⟨d1,d2,d3,d4,d5,d6,rfl⟩:=g6.shape
 refine ⟨_,_,_,_,_,_,_,rfl,fun V7 l7=>(c_num_Times (hb.le (l5.trans (l6.trans l7))) (hp2.le (l5.trans (l6.trans l7))) tb s2 (by omega)).mono ?_⟩
 rintro r V8 l8 g8
 obtain ⟨f1,f2,f3,f4,f5,f6,rfl⟩:=g8.shape
 refine ⟨_,_,_,_,_,_,_,rfl,fun V9 l9=>(c_num_Plus (g6.le (l7.trans (l8.trans l9))) (g8.le l9) (ta.mul s1) (tb.mul s2) (by omega)).mono ?_⟩
 rintro r V10 l10 g10
 have tc:=((ta.mul s1).add (tb.mul s2)).neg
 obtain ⟨i1,i2,i3,i4,i5,i6,rfl⟩:=g10.shape
 refine ⟨_,_,_,_,_,_,_,rfl,fun V11 l11=>(c_num_Opp (A * px + B * py) (by obtain ⟨_,_,_,_,_,_,e,h1,h2⟩:=g10.le l11; cases e; exact h1) (RQ.den (g10.le l11))).mono ?_⟩
 rintro r V12 l12 hc
 generalize -(A * px + B * py)=C at *
 obtain ⟨j1,j2,j3,j4,j5,j6,rfl⟩:=hc.shape
 have l012:=l5.trans (l6.trans (l7.trans (l8.trans (l9.trans (l10.trans (l11.trans l12))))))
 replace ha:=ha.le l012
 replace hb:=hb.le l012
 refine ⟨_,_,_,_,_,_,_,rfl,fun V13 l13=>(c_num_Den A _ (RQ.den (ha.le l13))).mono ?_⟩
 rintro r V14 l14 ⟨k1,k2,k3,rfl,g14⟩
 refine ⟨_,_,_,rfl,fun V15 l15=>(c_num_Den B _ (RQ.den (hb.le (l13.trans (l14.trans l15))))).mono ?_⟩
 rintro r V16 l16 ⟨k4,k5,k6,rfl,g16⟩
 obtain ⟨-,da,-⟩:=den_one_len ta
 obtain ⟨-,db,-⟩:=den_one_len tb
 obtain ⟨-,dc,-⟩:=den_one_len tc
 refine ⟨_,_,_,rfl,fun V17 l17=>(c_num_Product (g14.le (l15.trans (l16.trans l17))) (g16.le l17) (by omega)).mono ?_⟩
 rintro r V18 l18 ⟨k7,k8,k9,rfl,g18⟩
 rw [val_digs,val_digs] at g18
 refine ⟨_,_,_,rfl,fun V19 l19=>(c_num_Den C _ (RQ.den (hc.le (l13.trans (l14.trans (l15.trans (l16.trans (l17.trans (l18.trans l19))))))))).mono ?_⟩
 rintro r V20 l20 ⟨k10,k11,k12,rfl,g20⟩
 have dab:=digs_mul_len (a:=A.den) (b:=B.den)
 refine ⟨_,_,_,rfl,fun V21 l21=>(c_num_Product (g18.le (l19.trans (l20.trans l21))) (g20.le l21) (by omega)).mono ?_⟩
 rintro r V22 l22 ⟨k13,k14,k15,rfl,g22⟩
 rw [val_digs,val_digs] at g22
 have tf:Sz (k + k + 1 + (k + k + 1) + (k + k + 1 + k + 1 + (k + k + 1 + k + 1) + 1)) (((A.den * B.den * C.den:Nat):Int):Rat):=sz_nat (pow_mul_lt (pow_mul_lt ta.2 tb.2) tc.2) (by omega)
 generalize A.den * B.den * C.den=M at *
 refine ⟨_,_,_,rfl,fun V23 l23=>(c_num_pos (g22.le l23)).mono ?_⟩
 rintro r V24 l24 ⟨k16,k17,k18,rfl,g24⟩
 have hf:=RQ.ofNat g24 rfl
 have l024:=l13.trans (l14.trans (l15.trans (l16.trans (l17.trans (l18.trans (l19.trans (l20.trans (l21.trans (l22.trans (l23.trans l24))))))))))
 refine ⟨_,_,_,_,rfl,fun V25 l25=>(c_num_Times (ha.le (l024.trans l25)) (hf.le l25) ta tf (by omega)).mono ?_⟩
 rintro r V26 l26 g26
 obtain ⟨o1,o2,o3,o4,o5,o6,rfl⟩:=g26.shape
 refine ⟨_,_,_,_,_,_,_,rfl,fun V27 l27=>(c_num_Times (hb.le (l024.trans (l25.trans (l26.trans l27)))) (hf.le (l25.trans (l26.trans l27))) tb tf (by omega)).mono ?_⟩
 rintro r V28 l28 g28
 obtain ⟨o7,o8,o9,o10,o11,o12,rfl⟩:=g28.shape
 refine ⟨_,_,_,_,_,_,_,rfl,fun V29 l29=>(c_num_Times (hc.le (l024.trans (l25.trans (l26.trans (l27.trans (l28.trans l29)))))) (hf.le (l25.trans (l26.trans (l27.trans (l28.trans l29))))) tc tf (by omega)).mono ?_⟩
 rintro r V30 l30 g30
 obtain ⟨t1,t2,t3,t4,t5,t6,rfl⟩:=g30.shape
 refine ⟨_,_,_,_,_,_,_,rfl,fun V31 l31=>(c_ref04_MakeL (RQ.int (g26.le (l27.trans (l28.trans (l29.trans (l30.trans l31)))))) (RQ.int (g28.le (l29.trans (l30.trans l31)))) (RQ.int (g30.le l31)) (Nat.le_trans (den_one_len (ta.mul tf)).1 (by omega)) (Nat.le_trans (den_one_len (tb.mul tf)).1 (by omega)) (Nat.le_trans (den_one_len (tc.mul tf)).1 (by omega))).mono ?_⟩
 rintro r V32 l32 ⟨z1,z2⟩
 by_cases hz:(A * ((M:Int):Rat)).num=0/\(B * ((M:Int):Rat)).num=0
 ·obtain ⟨l,rfl,y1,y2,y3,y4,y5,y6,y7,y8,y9,rfl,w1,w2,w3⟩:=z1 hz
  exact ⟨_,_,_,_,_,_,_,_,_,_,_,_,_,rfl,fun V33 l33=>⟨fun _=>⟨_,rfl,_,_,_,_,_,_,_,_,_,rfl,w1.le l33,w2.le l33,w3.le l33⟩,fun h=>absurd hz h⟩⟩
 ·obtain ⟨l,rfl,y1,y2,y3,y4,y5,y6,y7,y8,y9,rfl,w1,w2,w3⟩:=z2 hz
  exact ⟨_,_,_,_,_,_,_,_,_,_,_,_,_,rfl,fun V33 l33=>⟨fun h=>absurd h hz,fun _=>⟨_,rfl,_,_,_,_,_,_,_,_,_,rfl,w1.le l33,w2.le l33,w3.le l33⟩⟩⟩
end Go.Proofs.Tryz
/- By program: the conditions of the functions, from their loaded code. -/
namespace Go.Proofs.Tryz
open Go.Eng
open Go.Value renaming int→I,pointer→P,slice→S,agg→A,bool→B,tuple→T
open Go.IntKind renaming i64→J,u64→U,u32→W
set_option maxRecDepth 100000
theorem vc_law14_known (V:View) (R:VR) (h:(Ca V 119 #[I J 0,I J 0] fun f8 f9=>∃l,∃m n o,∃p q r,∃s,∃t u w,∃x y z,f8=A #[B l,S m n o,S p q r,B s,S t u w,S x y z]/\(Ca f9 119 #[I J 1,I J 0] fun g0 g1=>∃a0,∃a1 a2 a3,∃a4 a5 a6,∃a7,∃a8 a9 b0,∃b1 b2 b3,g0=A #[B a0,S a1 a2 a3,S a4 a5 a6,B a7,S a8 a9 b0,S b1 b2 b3]/\(Ca g1 118 #[A #[B l,S m n o,S p q r,B s,S t u w,S x y z],A #[B a0,S a1 a2 a3,S a4 a5 a6,B a7,S a8 a9 b0,S b1 b2 b3]] fun g2 g3=>∃b4,∃b5 b6 b7,∃b8,∃b9 c0 c1,∃c2,∃c3 c4 c5,∃g4,g2=T #[A #[B b4,S b5 b6 b7,B b8,S b9 c0 c1,B c2,S c3 c4 c5],B g4]/\(Ca g3 120 #[I J (-2)] fun g5 g6=>∃c6,∃c7 c8 c9,∃d,g5=T #[A #[I J c6,S c7 c8 c9],d]/\(Ca g6 120 #[I J (-1)] fun g7 g8=>∃d0,∃d1 d2 d3,∃e,g7=T #[A #[I J d0,S d1 d2 d3],e]/\(Ca g8 122 #[A #[B b4,S b5 b6 b7,B b8,S b9 c0 c1,B c2,S c3 c4 c5]] fun g9 i0=>∃d4,∃d5 d6 d7,∃d8,∃d9 e0 e1,∃e2,∃e3 e4 e5,g9=A #[B d4,S d5 d6 d7,B d8,S d9 e0 e1,B e2,S e3 e4 e5]/\(Ca i0 121 #[A #[B d4,S d5 d6 d7,B d8,S d9 e0 e1,B e2,S e3 e4 e5],A #[I J c6,S c7 c8 c9],A #[I J d0,S d1 d2 d3]] fun i1 a=>∃f,∃b c e6,∃g,i1=T #[A #[I J f,S b c e6],g]/\(IsIface d)/\(((isNilI d)=true->(IsIface e)/\(((isNilI e)=true->(IsIface g)/\(((isNilI g)=true->(((f == (0:Int))=true->((((c:Int) == (1:Int))=true->(b.isSome=true)/\(0<=(0:Int)/\(0:Int) < (c:Int))/\((addrAdd b 0).isSome=true)/\(∃i,(∃e7,addrAdd (addrAdd b 0) 6=some e7/\a.at e7 (I J i))/\(((i == (-2:Int))=true->(b.isSome=true)/\(0<=(0:Int)/\(0:Int) < (c:Int))/\((addrAdd b 0).isSome=true)/\(∃k,(∃e8,addrAdd (addrAdd b 0) 7=some e8/\a.at e8 (I J k))/\(((k == (-1:Int))=true->(Ca a 110 #[A #[I J f,S b c e6]] fun i2 i3=>∃e9,i2=B e9/\(Rt i3 R (B e9))))/\((k == (-1:Int))=false->(Rt a R (B false))))))/\((i == (-2:Int))=false->(Rt a R (B false))))))/\(((c:Int) == (1:Int))=false->(Rt a R (B false)))))/\((f == (0:Int))=false->(Rt a R (B false)))))/\((isNilI g)=false->(Rt a R (B false)))))/\((isNilI e)=false->(Rt a R (B false)))))/\((isNilI d)=false->(Rt a R (B false)))))))))))):
 Acts prog 53 #[] V R:=
 fd (LF:=LF0) (RF:=[1000010]) [] [] func53 h
end Go.Proofs.Tryz
/- The law's helper 'known', and the law TreeLimit. -/
namespace Go.Proofs.Tryz
open Go.Eng Go.Big
/-- The line y = 0. -/
def LL:L3:=(0,1,0)
theorem LL_ok:okL LL=true:=by decide
theorem small_bd {z:Int} (k:Nat) (hk:k≠0) (h:z.natAbs<=1):z.natAbs < 2 ^ k:=Nat.lt_of_le_of_lt h (Nat.one_lt_two_pow hk)
theorem LL_bd' (k:Nat) (hk:k≠0):LL.1.natAbs < 2 ^ k/\LL.2.1.natAbs < 2 ^ k/\LL.2.2.natAbs < 2 ^ k:=⟨small_bd k hk (by decide),small_bd k hk (by decide),small_bd k hk (by decide)⟩
theorem LL_bd:Bd LL:=LL_bd' 1000 (by decide)
theorem RL_shape {V:View} {v:Value} {a b c:Int} (h:RL V v a b c):∃(b1:Bool) (p1:OA) (n1 c1:Nat) (b2:Bool) (p2:OA) (n2 c2:Nat) (b3:Bool) (p3:OA) (n3 c3:Nat),v=.agg #[.bool b1,.slice p1 n1 c1,.bool b2,.slice p2 n2 c2,.bool b3,.slice p3 n3 c3]:=by
 obtain ⟨p,n,s,p',n',s',q,m,e,rfl,-⟩:=h
 exact ⟨_,_,_,_,_,_,_,_,_,_,_,_,rfl⟩
/-- Through (0, 0) and (1, 0). -/
theorem c_through_LL {V:View} {u w:Value} (hp:RP V u ((0:Int):Rat) ((0:Int):Rat)) (hq:RP V w ((1:Int):Rat) ((0:Int):Rat)) :
  Acts prog 118 #[u,w] V fun r V'=>∃l,r=.tuple #[l,.bool true]/\RL V' l LL.1 LL.2.1 LL.2.2:=by
 have s0:Sz 1 ((0:Int):Rat):=by unfold Sz; decide
 have s1:Sz 1 ((1:Int):Rat):=sz_one
 refine (c_ref04_Through hp hq s0 s0 s1 s0 (by omega) (by omega)).mono ?_
 have e1:(thr ((0:Int):Rat) ((0:Int):Rat) ((1:Int):Rat) ((0:Int):Rat)).1.num=0:=by decide +kernel
 have e2:(thr ((0:Int):Rat) ((0:Int):Rat) ((1:Int):Rat) ((0:Int):Rat)).2.1.num=1:=by decide +kernel
 have e3:(thr ((0:Int):Rat) ((0:Int):Rat) ((1:Int):Rat) ((0:Int):Rat)).2.2.num=0:=by decide +kernel
 rw [e1,e2,e3]
 rintro r V' _ ⟨-,h⟩
 exact h (by omega)
/-- The two sentinels, as they are seen. -/
structure Snt (V:View) (y z:Value):Prop where
 inv:Sent V 1 y
 lim:Sent V 2 z
 yE:SErr y
 zE:SErr z
theorem Snt.le {V V':View} {y z:Value} (h:Snt V y z) (l:V.Le V'):Snt V' y z:=⟨h.inv.le l,h.lim.le l,h.yE,h.zE⟩
theorem nilI:IsIface .nilIface/\isNilI .nilIface=true:=⟨.inl rfl,rfl⟩
theorem AT.leaf {V:View} (i:Bool):AT V (.agg #[.int .i64 (rt 0 (.leaf i)),.slice none 0 0]) (rt 0 (.leaf i)) (wr 0 (.leaf i)):=⟨_,_,_,rfl,NS.nil⟩
theorem lines_wr {p:L3->Prop}:∀{t:Tr} {k:Nat},t.All p->∀x ∈ wr k t,p x.ln
 | .leaf _,_,_,x,h=>by simp [wr] at h
 | .node l a b,k,⟨h1,h2,h3⟩,x,h=>by
  simp only [wr,List.mem_cons,List.mem_append] at h
  rcases h with rfl | h | h
  ·exact h1
  ·exact lines_wr h2 x h
  ·exact lines_wr h3 x h
theorem c_known {V:View} {y z:Value} (hs:Snt V y z):Acts prog 53 #[] V fun r V'=>r=.bool true:=by
 refine vc_law14_known V _ fun V1 l1=>(c_ref04_Xy 0 0 (by omega) (by omega) (by omega) (by omega)).mono ?_
 rintro r V2 l2 hp
 have hp0:=hp
 obtain ⟨p1,n1,c1,p2,n2,c2,p3,n3,c3,p4,n4,c4,rfl,-⟩:=hp
 refine ⟨_,_,_,_,_,_,_,_,_,_,_,_,_,_,rfl,fun V3 l3=>(c_ref04_Xy 1 0 (by omega) (by omega) (by omega) (by omega)).mono ?_⟩
 rintro r V4 l4 hq
 have hq0:=hq
 obtain ⟨q1,m1,d1,q2,m2,d2,q3,m3,d3,q4,m4,d4,rfl,-⟩:=hq
 refine ⟨_,_,_,_,_,_,_,_,_,_,_,_,_,_,rfl,fun V5 l5=>(c_through_LL (hp0.le (l3.trans (l4.trans l5))) (hq0.le l5)).mono ?_⟩
 rintro r V6 l6 ⟨l,rfl,hl⟩
 obtain ⟨b1,u1,v1,w1,b2,u2,v2,w2,b3,u3,v3,w3,rfl⟩:=(RL_shape hl)
 have l06:=l1.trans (l2.trans (l3.trans (l4.trans (l5.trans l6))))
 refine ⟨_,_,_,_,_,_,_,_,_,_,_,_,_,rfl,fun V7 l7=>(c_tree_Leaf (-2) (hs.inv.le (l06.trans l7))).mono ?_⟩
 rintro r V8 l8 ⟨o,e,rfl,ho⟩
 rw [if_pos (by omega)] at ho
 obtain ⟨rfl,rfl⟩:=ho
 refine ⟨_,_,_,_,_,rfl,fun V9 l9=>(c_tree_Leaf (-1) (hs.inv.le (l06.trans (l7.trans (l8.trans l9))))).mono ?_⟩
 rintro r V10 l10 ⟨o,e,rfl,ho⟩
 rw [if_pos (by omega)] at ho
 obtain ⟨rfl,rfl⟩:=ho
 have l010:=l06.trans (l7.trans (l8.trans (l9.trans l10)))
 obtain ⟨t1,t2,t3⟩:=LL_bd.digs
 refine ⟨_,_,_,_,_,rfl,fun V11 l11=>(c_ref04_ToL (hl.le (l7.trans (l8.trans (l9.trans (l10.trans l11))))) (by omega) (by omega) (by omega)).mono ?_⟩
 rintro r V12 l12 hm
 obtain ⟨b1,u1,v1,w1,b2,u2,v2,w2,b3,u3,v3,w3,rfl⟩:=(RL_shape hm)
 have o1:ofT (wr 0 (.leaf true)) (rt 0 (.leaf true))=some (.leaf true):=ofT_wr trivial (by simp [Tr.size])
 have o2:ofT (wr 0 (.leaf false)) (rt 0 (.leaf false))=some (.leaf false):=ofT_wr trivial (by simp [Tr.size])
 refine ⟨_,_,_,_,_,_,_,_,_,_,_,_,rfl,fun V13 l13=>(c_tree_Join (x:=LL) (hm.le l13) LL_bd (AT.leaf true) (AT.leaf false) (fun x h=>by simp [wr] at h) (fun x h=>by simp [wr] at h) (hs.inv.le (l010.trans (l11.trans (l12.trans l13)))) (hs.lim.le (l010.trans (l11.trans (l12.trans l13))))).mono ?_⟩
 rintro r V14 l14 ⟨o,e,rfl,-,ho⟩
 rw [o1,o2] at ho
 have ho:=ho (.node LL (.leaf true) (.leaf false)) (by unfold joinT; rw [LL_ok]; rfl)
 rw [if_neg (by simp [Tr.size])] at ho
 obtain ⟨hat,rfl⟩:=ho
 have hat0:=hat
 obtain ⟨q,n,c,rfl,hns⟩:=hat
 have hn:n=1:=hns.len
 subst hn
 obtain ⟨_,_,_,_,_,_,_,_,_,_,_,_,a,ha,-,-,-,-,-,-,a6,a7,-⟩:=hns.rd (k:=0) (d:=⟨LL,-2,-1⟩) rfl
 have ha:addrAdd q 0=some a:=by simpa using ha
 refine ⟨_,_,_,_,_,rfl,nilI.1,fun _=>⟨nilI.1,fun _=>⟨nilI.1,fun _=>⟨fun _=>⟨fun _=>⟨hns.isS (by omega),⟨by omega,by omega⟩,by rw [ha]; rfl,-2,⟨a.add 6,by rw [ha]; rfl,a6⟩,fun _=>⟨hns.isS (by omega),⟨by omega,by omega⟩,by rw [ha]; rfl,-1,⟨a.add 7,by rw [ha]; rfl,a7⟩,fun _ V15 l15=>(c_tree_Valid ?_ (hat0.le l15)).mono ?_,(fun h=>by simp at h)⟩,(fun h=>by simp at h)⟩,(fun h=>by simp at h)⟩,(fun h=>by simp [rt] at h)⟩,fun h=>by rw [nilI.2] at h; cases h⟩,fun h=>by rw [nilI.2] at h; cases h⟩,fun h=>by rw [nilI.2] at h; cases h⟩
 ·exact lines_wr ⟨LL_bd,trivial,trivial⟩
 ·rintro r V16 l16 rfl
  refine ⟨_,rfl,fun V17 l17=>?_⟩
  rw [ofT_wr (t:=.node LL (.leaf true) (.leaf false)) ⟨LL_ok,trivial,trivial⟩ (by simp [Tr.size])]
  rfl
end Go.Proofs.Tryz
/- What the rows' lists give (the sentinels), and how a contract over views closes a law's step. -/
namespace Go.Proofs.YtimkdinmcbepnaaGreatDoor
open Go.ChangeShapes Go.WideShapes Go.ChangeAt Go.RowKit Go.Eng
theorem own:ownKnob Tryz.prog.godebug=none:=by kernel_rfl
theorem star : "*" ++ "errors.errorString" = "*errors.errorString" := by decide
theorem rowE (u : TypeId) (h : Tryz.prog.typeName? 3 u = some "*errors.errorString") : u = 336 :=
 typeName_ptr_named (nm := "errors.errorString") (by rw [star]; kernel_rfl) (by kernel_rfl) (by decide) u (by rw [star]; exact h)
theorem cellsE:Tryz.prog.cellsOf 360=1:=by kernel_rfl
theorem cellsS:Tryz.prog.cellsOf 9=1:=by kernel_rfl
theorem row0 (g:Nat):MemPlace.cell g 0 ∈ MemPlace.row ⟨g,0,none⟩ 1:=by simp [MemPlace.row]
theorem cell0 {P:Program} {W:World} {name:String} {g:Nat} {v:Value} (hg:P.globalNamed name=some g) (h:W.var? P name=some #[v]):W.cell? ⟨g,0,none⟩=some v:=by simpa using World.var?_cell hg h 0
set_option maxRecDepth 100000 in
/-- What a list gives of a sentinel on it. -/
theorem sent_of_laid {W:World} {l:List (String × DataW Unit)} {name:String} {text:List UInt8} {g:Nat} (hg:Tryz.prog.globalNamed name=some g) (hty:(Tryz.prog.globals[g]?).map (·.type)=some 30)
  (hm : (name, .iface "*errors.errorString" (.ptr (.agg [.lit (.string text)]))) ∈ l) (h : laidMet Tryz.prog l W) :
  ∃a,W.cell? ⟨g,0,none⟩=some (.iface 336 (.pointer (some a))):=by
 obtain ⟨ps,hv,-,hrows⟩:=h
 induction l generalizing ps with
 | nil=>cases hm
 | cons x r ih=>
  obtain ⟨n,d⟩:=x
  obtain ⟨g',t,cs,fuel,p,q,hg',ht',hvar,hd,hr,rfl⟩:=hv
  rcases List.mem_cons.1 hm with e | hm
  ·cases e
   obtain rfl:=Option.some.inj (hg.symm.trans hg')
   obtain rfl:=Option.some.inj (hty.symm.trans ht')
   obtain ⟨l0⟩:=cs
   have ok0:∀u v,l0=[.iface u v]->Value.okWide Tryz.prog W .any 0 u v:=fun u v e=>by
    subst e
    exact (hrows g 0 (List.mem_append_left _ (List.mem_append_left _ (row0 g)))).2 u v (cell0 hg hvar)
   obtain ⟨a,s,rfl,-⟩:=errorString_of_trod Tryz.underlying30 rowE Tryz.underlying336 Tryz.underlying360 rfl rfl Tryz.underlying9 cellsE cellsS hd ok0
   exact ⟨a,cell0 hg hvar⟩
  ·exact ih hm q hr fun b off hb=>hrows b off (List.mem_append_right _ hb)
/-- A world, seen whole. -/
def View.all (W:World):View:=⟨W,fun _=>False,fun _=>False,fun _ h=>h.elim,fun _ h=>h⟩
theorem kept_of_ext {w w':World} (h:ExtX (fun _=>False) w w') (may:MemPlace->Prop):w.keptBut w' may:=by
 refine ⟨h.os,h.out,fun i hi=>?_⟩
 rw [h.blk i hi (fun h=>h)]
 cases w.heap[i]? with
 | none=>rfl
 | some o=>cases o <;> simp
theorem calls_of_acts {f:FuncId} {args:Array Value} {W:World} {R:Value->Prop} (h:Acts Tryz.prog f args (View.all W) fun r _=>R r):Calls Tryz.prog f args W fun e w'=>∃r,e=.returned r/\R r/\ExtX (fun _=>False) W w':=
 h.2.mono fun e w' ⟨r,he,hx,hr⟩=>⟨r,he,hr,hx⟩
theorem laidOut:laidOutB Tryz.prog=true:=by kernel_rfl
theorem below_of_ext {w w':World} (h:ExtX (fun _=>False) w w'):Below w.heap.size w w':=⟨h.os,h.tape,h.out,h.size,fun k hk=>h.blk k hk (fun h=>h)⟩
/-- The arguments read as they did. -/
theorem all_stays {P:Program} (hlo:laidOutB P=true) {H:Type} {enc:TypeId × Value->H} {W W':World} (hb:Below W.heap.size W W') (ts:List TypeId):∀{vs:List Value} {ds:List (DataW H)} {ps:List MemPlace},
  (ts.all fun t=>P.readableRec t && decide (t < P.types.size))=true->DataW.TrodAll enc P W 0 (fun _=>true) true ts vs ds ps->(∀x ∈ ps,x.block < W.heap.size) ->
   DataW.TrodAll enc P W' 0 (fun b=>decide (b < W.heap.size)) true ts vs ds ps:=by
 induction ts with
 | nil=>
  intro vs ds ps _ h _
  obtain ⟨rfl,rfl,rfl⟩:=trodAll_nil h
  exact trodAll_mk0
 | cons t ts ih=>
  intro vs ds ps ht h hlt
  obtain ⟨v,vs',d,ds',p,q,rfl,rfl,rfl,h1,h2⟩:=trodAll_cons h
  simp only [List.all_cons,Bool.and_eq_true,decide_eq_true_eq] at ht
  exact trodAll_cons_mk (Below.trod hlo ht.1.1 ht.1.2 h1 hb fun x hx=>hlt x (List.mem_append_left _ hx)) (ih ht.2 h2 fun x hx=>hlt x (List.mem_append_right _ hx))
set_option maxRecDepth 100000 in
/-- A law's end: true, the arguments read as they did; the row does not say 'again'. -/
theorem law_end {H:Type} {enc:TypeId × Value->H} {fid:FuncId} {f:Func} {s:ChangeSpec} {W:World} {args:Array Value} {ds gs:List (DataW H)} {before:List MemPlace} {fresh handsOn:Bool}
  (hW:DataW.Whole enc Tryz.prog f.params.toList s.vars false W args.toList ds gs before) (hvars:s.vars=[]) (hts:(f.params.toList.all fun t=>Tryz.prog.readableRec t && decide (t < Tryz.prog.types.size))=true)
  (hres:f.resultTypes=#[4]) (hs:s.fn H (ds++gs)={ results:=[.lit (.bool true)],args:=ds })
  (h:Acts Tryz.prog fid args (View.all W) fun r _=>r=.bool true):Calls Tryz.prog fid args W fun e W'=>∃v,e=.returned v/\s.post enc Tryz.prog f false fresh handsOn false W args v W':=by
 refine (calls_of_acts h).mono fun e W' ⟨r,he,hr,hx⟩=>?_
 subst he hr
 have hW':=hW
 obtain ⟨p,q,hA,hV,rfl,-,-⟩:=hW
 rw [hvars] at hV
 obtain ⟨rfl,rfl⟩:=trodVars_none hV
 have hlt:∀x ∈ p++[],x.block < W.heap.size:=fun x hx=>hW'.lt x hx
 refine ⟨_,rfl,ds,_,p++[],[],p++[],[],hW',?_,?_,?_,kept_of_ext hx _,fun h=>nomatch h⟩
 ·rw [hs,hres]
  exact trodAll_cons_mk (shut_bool Tryz.underlying4 _) trodAll_mk0
 ·rw [hs,List.append_nil]
  exact all_stays laidOut (below_of_ext hx) _ hts hA fun x hx=>hlt x (by rw [List.append_nil]; exact hx)
 ·rw [hs,hvars]
  rfl
set_option maxRecDepth 100000 in
/-- A slice of ints as it came in. -/
theorem rdl_of_trod {H:Type} {enc:TypeId × Value->H} {W:World} {p:OA} {n c:Nat} {d:DataW H} {ps:List MemPlace}
  (h:DataW.Trod enc Tryz.prog W 0 (fun _=>true) true 22 (.slice p n c) d ps):n<=c/\∀i,i < n->∃(a:Addr) (x:Int),addrAdd p (i * 1)=some a/\(View.all W).at a (.int .i64 x):=by
 obtain ⟨fuel,hf⟩:=h
 rcases open_ints Tryz.underlying22 Tryz.underlying3 (show Tryz.prog.cellsOf 3=1 by kernel_rfl) hf with ⟨hcs,-⟩ | ⟨a,len',cap',zs,hcs,_,hl,-,hz,-,hcell,-⟩
 ·simp [Value.cells] at hcs
  obtain ⟨rfl,rfl,rfl⟩:=hcs
  exact ⟨Nat.le_refl _,fun i hi=>absurd hi (by omega)⟩
 ·simp [Value.cells] at hcs
  obtain ⟨rfl,rfl,rfl⟩:=hcs
  simp only [if_true] at hz
  exact ⟨hl,fun i hi=>⟨a.add i,_,by rw [Nat.mul_one]; rfl,fun h=>h,hcell i (by omega)⟩⟩
end Go.Proofs.YtimkdinmcbepnaaGreatDoor
/- A sentinel that is seen in a world seen whole. -/
namespace Go.Proofs.YtimkdinmcbepnaaGreatDoor
open Go.ChangeShapes Go.WideShapes Go.ChangeAt Go.RowKit Go.Eng
theorem sent_all {W:World} {g:Nat} {y:Value} (h:W.cell? ⟨g,0,none⟩=some y):Tryz.Sent (View.all W) g y:=⟨fun h=>h,h⟩
end Go.Proofs.YtimkdinmcbepnaaGreatDoor
/- By program: the conditions of the functions, from their loaded code. -/
namespace Go.Proofs.Tryz
open Go.Eng
open Go.Value renaming int→I,pointer→P,slice→S,agg→A,bool→B,tuple→T
open Go.IntKind renaming i64→J,u64→U,u32→W
set_option maxRecDepth 100000
theorem vc_scene_New (d:OA) (a b:Nat) (V:View) (R:VR) (h:(0<=(minI (a:Int) (400))/\(minI (a:Int) (400))<=(b:Int))/\(∀c,V.Le c->∀e:Nat,(c.blk e (.cells #[S d ((minI (a:Int) (400)).toNat) b,I J 0] 107 (0,0)))->R (P (some ⟨e,0,none⟩)) c)):
 Acts prog 10 #[S d a b] V R:=
 fd (LF:=LF0) (RF:=[1000010]) [] [] func10 h
theorem vc_scene_Tape_Next (e:Nat) (f:OA) (b g:Nat) (a d:Int) (V:View) (R:VR) (hw100000:V.w.heap[e]?=some (.cells #[S f b g,I J a] 107 (0,0))) (hx100000:V.X e) (h:(((decide (a ≥ (b:Int)))=true->(∀k,V.Le k->k.w.heap[e]?=some (.cells #[S f b g,I J a] 107 (0,0))->R (I J 0) k))/\((decide (a ≥ (b:Int)))=false->(f.isSome=true)/\(0<=a/\a < (b:Int))/\(∃i,(∃n,addrAdd f (a.toNat * 1)=some n/\V.at n (I J i))/\(d≠0)/\(((decide ((i.tmod d) < (0:Int)))=true->(∀l,V.Le l->l.w.heap[e]?=some (.cells #[S f b g,I J (J.wrap (a + (1:Int)))] 107 (0,0))->R (I J (J.wrap ((i.tmod d) + d))) l))/\((decide ((i.tmod d) < (0:Int)))=false->(∀m,V.Le m->m.w.heap[e]?=some (.cells #[S f b g,I J (J.wrap (a + (1:Int)))] 107 (0,0))->R (I J (i.tmod d)) m))))))):
 Acts prog 31 #[P (some ⟨e,0,none⟩),I J d] V R:=
 fn_does (LF:=LF0) (RF:=[1000010]) (β0:=(upd1 (fun _=>0) 100000 e)) tab_ok mixed [] [] func31 (by kernel_rfl) [(0,.c (.ptr 100000 0)),(1,.c (.v (I J d)))] [(100000,⟨.lit [.v (S f b g),.v (I J a)],107⟩)] (by kernel_rfl) ⟨⟨hw100000,hx100000⟩,trivial,trivial⟩ h (by kernel_rfl)
theorem vc_scene_Tape_P (a:Nat) (g:OA) (i k:Nat) (l:Int) (V:View) (R:VR) (hw100000:V.w.heap[a]?=some (.cells #[S g i k,I J l] 107 (0,0))) (hx100000:V.X a) (h:(∀e,V.Le e->∀b:Nat,(e.w.heap[b]?=some (.cells #[S g i k,I J l] 107 (0,0)))->(e.H b)->Acts prog 31 #[P (some ⟨b,0,none⟩),I J 9] (e.lend [b]) fun b6 n=>∃o,b6=I J o/\∃p q r,∃s,n.w.heap[b]?=some (.cells #[S p q r,I J s] 107 (0,0))/\(∀f,n.shut.Le f->∀d:Nat,(f.w.heap[d]?=some (.cells #[S p q r,I J s] 107 (0,0)))->(f.H d)->Acts prog 31 #[P (some ⟨d,0,none⟩),I J 9] (f.lend [d]) fun b7 t=>∃u,b7=I J u/\∃x y z,∃a0,t.w.heap[d]?=some (.cells #[S x y z,I J a0] 107 (0,0))/\(∀a1,t.shut.Le a1->Acts prog 119 #[I J (J.wrap (o - (4:Int))),I J (J.wrap (u - (4:Int)))] a1 fun b8 b9=>∃a2,∃a3 a4 a5,∃a6 a7 a8,∃a9,∃b0 b1 b2,∃b3 b4 b5,b8=A #[B a2,S a3 a4 a5,S a6 a7 a8,B a9,S b0 b1 b2,S b3 b4 b5]/\(∀m,b9.Le m->m.w.heap[a]?=some (.cells #[S x y z,I J a0] 107 (0,0))->R (A #[B a2,S a3 a4 a5,S a6 a7 a8,B a9,S b0 b1 b2,S b3 b4 b5]) m))))):
 Acts prog 157 #[P (some ⟨a,0,none⟩)] V R:=
 fn_does (LF:=LF0) (RF:=[1000010]) (β0:=(upd1 (fun _=>0) 100000 a)) tab_ok mixed [] [] func157 (by kernel_rfl) [(0,.c (.ptr 100000 0))] [(100000,⟨.lit [.v (S g i k),.v (I J l)],107⟩)] (by kernel_rfl) ⟨⟨hw100000,hx100000⟩,trivial,trivial⟩ h (by kernel_rfl)
theorem vc_scene_Tape_V (a:Nat) (e:OA) (f g:Nat) (i:Int) (V:View) (R:VR) (hw100000:V.w.heap[a]?=some (.cells #[S e f g,I J i] 107 (0,0))) (hx100000:V.X a) (h:(∀d,V.Le d->∀b:Nat,(d.w.heap[b]?=some (.cells #[S e f g,I J i] 107 (0,0)))->(d.H b)->Acts prog 157 #[P (some ⟨b,0,none⟩)] (d.lend [b]) fun c4 a7=>∃k,∃l m n,∃o p q,∃r,∃s t u,∃x y z,c4=A #[B k,S l m n,S o p q,B r,S s t u,S x y z]/\∃a0 a1 a2,∃a3,a7.w.heap[b]?=some (.cells #[S a0 a1 a2,I J a3] 107 (0,0))/\(∀a8,a7.shut.Le a8->Acts prog 208 #[A #[B k,S l m n,S o p q,B r,S s t u,S x y z],A #[B false,S none 0 0,S none 0 0,B false,S none 0 0,S none 0 0]] a8 fun c5 a9=>∃a4,c5=B a4/\((a4=true->(Ca a9 119 #[I J 1,I J 0] fun c6 c7=>∃b0,∃b1 b2 b3,∃b4 b5 b6,∃b7,∃b8 b9 c0,∃c1 c2 c3,c6=A #[B b0,S b1 b2 b3,S b4 b5 b6,B b7,S b8 b9 c0,S c1 c2 c3]/\(∀a5,c7.Le a5->a5.w.heap[a]?=some (.cells #[S a0 a1 a2,I J a3] 107 (0,0))->R (A #[B b0,S b1 b2 b3,S b4 b5 b6,B b7,S b8 b9 c0,S c1 c2 c3]) a5)))/\(a4=false->(∀a6,a9.Le a6->a6.w.heap[a]?=some (.cells #[S a0 a1 a2,I J a3] 107 (0,0))->R (A #[B k,S l m n,S o p q,B r,S s t u,S x y z]) a6)))))):
 Acts prog 159 #[P (some ⟨a,0,none⟩)] V R:=
 fn_does (LF:=LF0) (RF:=[1000010]) (β0:=(upd1 (fun _=>0) 100000 a)) tab_ok mixed [] [] func159 (by kernel_rfl) [(0,.c (.ptr 100000 0))] [(100000,⟨.lit [.v (S e f g),.v (I J i)],107⟩)] (by kernel_rfl) ⟨⟨hw100000,hx100000⟩,trivial,trivial⟩ h (by kernel_rfl)
theorem vc_scene_Tape_L (a:Nat) (g:OA) (i k:Nat) (l:Int) (V:View) (R:VR) (hw100000:V.w.heap[a]?=some (.cells #[S g i k,I J l] 107 (0,0))) (hx100000:V.X a) (h:(∀e,V.Le e->∀b:Nat,(e.w.heap[b]?=some (.cells #[S g i k,I J l] 107 (0,0)))->(e.H b)->Acts prog 157 #[P (some ⟨b,0,none⟩)] (e.lend [b]) fun g2 a3=>∃m,∃n o p,∃q r s,∃t,∃u x y,∃z a0 a1,g2=A #[B m,S n o p,S q r s,B t,S u x y,S z a0 a1]/\∃a4 a5 a6,∃a7,a3.w.heap[b]?=some (.cells #[S a4 a5 a6,I J a7] 107 (0,0))/\(∀a8,a3.shut.Le a8->Acts prog 19 #[I J 1] a8 fun g3 g4=>∃a9,∃b0 b1 b2,∃b3 b4 b5,g3=A #[B a9,S b0 b1 b2,S b3 b4 b5]/\(∀f,g4.Le f->∀d:Nat,(f.w.heap[d]?=some (.cells #[S a4 a5 a6,I J a7] 107 (0,0)))->(f.H d)->Acts prog 159 #[P (some ⟨d,0,none⟩)] (f.lend [d]) fun g5 b6=>∃b7,∃b8 b9 c0,∃c1 c2 c3,∃c4,∃c5 c6 c7,∃c8 c9 d0,g5=A #[B b7,S b8 b9 c0,S c1 c2 c3,B c4,S c5 c6 c7,S c8 c9 d0]/\∃d1 d2 d3,∃d4,b6.w.heap[d]?=some (.cells #[S d1 d2 d3,I J d4] 107 (0,0))/\(∀d5,b6.shut.Le d5->Acts prog 158 #[A #[B m,S n o p,S q r s,B t,S u x y,S z a0 a1],A #[B a9,S b0 b1 b2,S b3 b4 b5],A #[B b7,S b8 b9 c0,S c1 c2 c3,B c4,S c5 c6 c7,S c8 c9 d0]] d5 fun g6 g7=>∃d6,∃d7 d8 d9,∃e0 e1 e2,∃e3,∃e4 e5 e6,∃e7 e8 e9,g6=A #[B d6,S d7 d8 d9,S e0 e1 e2,B e3,S e4 e5 e6,S e7 e8 e9]/\(Ca g7 118 #[A #[B m,S n o p,S q r s,B t,S u x y,S z a0 a1],A #[B d6,S d7 d8 d9,S e0 e1 e2,B e3,S e4 e5 e6,S e7 e8 e9]] fun g8 g9=>∃f0,∃f1 f2 f3,∃f4,∃f5 f6 f7,∃f8,∃f9 g0 g1,∃i0,g8=T #[A #[B f0,S f1 f2 f3,B f4,S f5 f6 f7,B f8,S f9 g0 g1],B i0]/\(∀a2,g9.Le a2->a2.w.heap[a]?=some (.cells #[S d1 d2 d3,I J d4] 107 (0,0))->R (A #[B f0,S f1 f2 f3,B f4,S f5 f6 f7,B f8,S f9 g0 g1]) a2))))))):
 Acts prog 107 #[P (some ⟨a,0,none⟩)] V R:=
 fn_does (LF:=LF0) (RF:=[1000010]) (β0:=(upd1 (fun _=>0) 100000 a)) tab_ok mixed [] [] func107 (by kernel_rfl) [(0,.c (.ptr 100000 0))] [(100000,⟨.lit [.v (S g i k),.v (I J l)],107⟩)] (by kernel_rfl) ⟨⟨hw100000,hx100000⟩,trivial,trivial⟩ h (by kernel_rfl)
theorem vc_scene_Tape_Tree (a:Nat) (l:OA) (m n:Nat) (o b:Int) (V:View) (R:VR) (hw100000:V.w.heap[a]?=some (.cells #[S l m n,I J o] 107 (0,0))) (hx100000:V.X a) (h:(((b == (0:Int))=true->(∀p,V.Le p->∀d:Nat,(p.w.heap[d]?=some (.cells #[S l m n,I J o] 107 (0,0)))->(p.H d)->Acts prog 31 #[P (some ⟨d,0,none⟩),I J 2] (p.lend [d]) fun f2 a6=>∃a7,f2=I J a7/\∃a8 a9 b0,∃b1,a6.w.heap[d]?=some (.cells #[S a8 a9 b0,I J b1] 107 (0,0))/\(∀b2,a6.shut.Le b2->Acts prog 106 #[B (a7 == (1:Int))] b2 fun f3 f4=>∃b3,f3=P b3/\(∀y,f4.Le y->y.w.heap[a]?=some (.cells #[S a8 a9 b0,I J b1] 107 (0,0))->R (P b3) y))))/\((b == (0:Int))=false->(∀q,V.Le q->∀e:Nat,(q.w.heap[e]?=some (.cells #[S l m n,I J o] 107 (0,0)))->(q.H e)->Acts prog 31 #[P (some ⟨e,0,none⟩),I J 4] (q.lend [e]) fun f5 z=>∃a0,f5=I J a0/\∃a1 a2 a3,∃a4,z.w.heap[e]?=some (.cells #[S a1 a2 a3,I J a4] 107 (0,0))/\(((a0 == (0:Int))=true->(∀r,z.shut.Le r->∀f:Nat,(r.w.heap[f]?=some (.cells #[S a1 a2 a3,I J a4] 107 (0,0)))->(r.H f)->Acts prog 31 #[P (some ⟨f,0,none⟩),I J 2] (r.lend [f]) fun f6 b4=>∃b5,f6=I J b5/\∃b6 b7 b8,∃b9,b4.w.heap[f]?=some (.cells #[S b6 b7 b8,I J b9] 107 (0,0))/\(∀c0,b4.shut.Le c0->Acts prog 106 #[B (b5 == (1:Int))] c0 fun f7 f8=>∃c1,f7=P c1/\(∀a5,f8.Le a5->a5.w.heap[a]?=some (.cells #[S b6 b7 b8,I J b9] 107 (0,0))->R (P c1) a5))))/\((a0 == (0:Int))=false->(∀s,z.shut.Le s->∀g:Nat,(s.w.heap[g]?=some (.cells #[S a1 a2 a3,I J a4] 107 (0,0)))->(s.H g)->Acts prog 107 #[P (some ⟨g,0,none⟩)] (s.lend [g]) fun f9 c2=>∃c3,∃c4 c5 c6,∃c7,∃c8 c9 d0,∃d1,∃d2 d3 d4,f9=A #[B c3,S c4 c5 c6,B c7,S c8 c9 d0,B d1,S d2 d3 d4]/\∃d5 d6 d7,∃d8,c2.w.heap[g]?=some (.cells #[S d5 d6 d7,I J d8] 107 (0,0))/\(∀t,c2.shut.Le t->∀i:Nat,(t.w.heap[i]?=some (.cells #[S d5 d6 d7,I J d8] 107 (0,0)))->(t.H i)->Acts prog 45 #[P (some ⟨i,0,none⟩),I J (J.wrap (b - (1:Int)))] (t.lend [i]) fun g0 d9=>∃e0,g0=P e0/\∃e1 e2 e3,∃e4,d9.w.heap[i]?=some (.cells #[S e1 e2 e3,I J e4] 107 (0,0))/\(∀u,d9.shut.Le u->∀k:Nat,(u.w.heap[k]?=some (.cells #[S e1 e2 e3,I J e4] 107 (0,0)))->(u.H k)->Acts prog 45 #[P (some ⟨k,0,none⟩),I J (J.wrap (b - (1:Int)))] (u.lend [k]) fun g1 e5=>∃e6,g1=P e6/\∃e7 e8 e9,∃f0,e5.w.heap[k]?=some (.cells #[S e7 e8 e9,I J f0] 107 (0,0))/\(∀x,e5.shut.Le x->∀f1:Nat,x.w.heap[a]?=some (.cells #[S e7 e8 e9,I J f0] 107 (0,0))->(x.blk f1 (.cells #[B false,B false,B c3,S c4 c5 c6,B c7,S c8 c9 d0,B d1,S d2 d3 d4,P e0,P e6] 166 (0,0)))->R (P (some ⟨f1,0,none⟩)) x)))))))))):
 Acts prog 45 #[P (some ⟨a,0,none⟩),I J b] V R:=
 fn_does (LF:=LF0) (RF:=[1000010]) (β0:=(upd1 (fun _=>0) 100000 a)) tab_ok mixed [] [] func45 (by kernel_rfl) [(0,.c (.ptr 100000 0)),(1,.c (.v (I J b)))] [(100000,⟨.lit [.v (S l m n),.v (I J o)],107⟩)] (by kernel_rfl) ⟨⟨hw100000,hx100000⟩,trivial,trivial⟩ h (by kernel_rfl)
end Go.Proofs.Tryz
/- The scene's tape: Next, P, V, L, Tree; lines and trees that it makes. -/
namespace Go.Proofs.Tryz
open Go.Eng Go.Big
/-! plain laws: the line through two points of the grid -/
theorem thr_int (x y u w:Int):thr (x:Rat) (y:Rat) ((x:Rat) + ((1:Int):Rat) * (u:Rat)) ((y:Rat) + ((1:Int):Rat) * (w:Rat))=(((-w:Int):Rat),((u:Int):Rat),((w * x - u * y:Int):Rat)):=by
 have e1:(x:Rat) + ((1:Int):Rat) * (u:Rat)=((x + u:Int):Rat):=by rw [← Rat.intCast_mul,← Rat.intCast_add,Int.one_mul]
 have e2:(y:Rat) + ((1:Int):Rat) * (w:Rat)=((y + w:Int):Rat):=by rw [← Rat.intCast_mul,← Rat.intCast_add,Int.one_mul]
 rw [e1,e2]
 have ha:-(((y + w:Int):Rat) - (y:Rat))=((-w:Int):Rat):=by rw [← Rat.intCast_sub,← Rat.intCast_neg]; congr 1; omega
 have hb:((x + u:Int):Rat) - (x:Rat)=((u:Int):Rat):=by rw [← Rat.intCast_sub]; congr 1; omega
 have hc:-(((-w:Int):Rat) * (x:Rat) + ((u:Int):Rat) * (y:Rat))=((w * x - u * y:Int):Rat):=by
  rw [← Rat.intCast_mul,← Rat.intCast_mul,← Rat.intCast_add,← Rat.intCast_neg]; congr 1; rw [Int.neg_mul]; omega
 have hf:(((((-w:Int):Rat).den * ((u:Int):Rat).den * ((w * x - u * y:Int):Rat).den:Nat):Int):Rat)=1:=rfl
 unfold thr
 dsimp only
 rw [ha,hb,hc,hf,Rat.mul_one,Rat.mul_one,Rat.mul_one]
/-- Divided by their common divisor. -/
def lnOf (a b c:Int):L3:=(a / (gcd3 a b c:Int),b / (gcd3 a b c:Int),c / (gcd3 a b c:Int))
def small (z:Int) (k:Nat):Bool:=decide (z.natAbs<=k)
theorem lnOf_fin:∀i:Fin 9,∀j:Fin 9,∀k:Fin 65,(i.1=4/\j.1=4) \/ (okL (lnOf ((i.1:Int) - 4) ((j.1:Int) - 4) ((k.1:Int) - 32)) && small (lnOf ((i.1:Int) - 4) ((j.1:Int) - 4) ((k.1:Int) - 32)).1 32 && small (lnOf ((i.1:Int) - 4) ((j.1:Int) - 4) ((k.1:Int) - 32)).2.1 32 && small (lnOf ((i.1:Int) - 4) ((j.1:Int) - 4) ((k.1:Int) - 32)).2.2 32)=true:=by decide +kernel
theorem bd32 (k:Nat) (hk:6<=k) {z:Int} (h:z.natAbs<=32):z.natAbs < 2 ^ k:=Nat.lt_of_le_of_lt h (Nat.lt_of_lt_of_le (by decide:32 < 2 ^ 6) (Nat.pow_le_pow_right (by decide) hk))
theorem bd32' (k:Nat) (hk:6<=k) {x:L3} (h1:x.1.natAbs<=32) (h2:x.2.1.natAbs<=32) (h3:x.2.2.natAbs<=32):x.1.natAbs < 2 ^ k/\x.2.1.natAbs < 2 ^ k/\x.2.2.natAbs < 2 ^ k:=⟨bd32 k hk h1,bd32 k hk h2,bd32 k hk h3⟩
theorem lnOf_ok {a b c:Int} (h1:-4<=a/\a<=4) (h2:-4<=b/\b<=4) (h3:-32<=c/\c<=32) (h:¬ (a=0/\b=0)):okL (lnOf a b c)=true/\Bd (lnOf a b c):=by
 have:=lnOf_fin ⟨(a + 4).toNat,by omega⟩ ⟨(b + 4).toNat,by omega⟩ ⟨(c + 32).toNat,by omega⟩
 dsimp only at this
 rw [show (((a + 4).toNat:Nat):Int) - 4=a from by omega,show (((b + 4).toNat:Nat):Int) - 4=b from by omega,show (((c + 32).toNat:Nat):Int) - 32=c from by omega] at this
 rcases this with h' | h'
 ·omega
 ·simp only [Bool.and_eq_true,small,decide_eq_true_eq] at h'
  exact ⟨h'.1.1.1,bd32' 1000 (by decide) h'.1.1.2 h'.1.2 h'.2⟩
theorem mul_bd {x y:Int} (h1:-4<=x/\x<=4) (h2:-4<=y/\y<=4):-16<=x * y/\x * y<=16:=by
 have:(x * y).natAbs<=4 * 4:=by rw [Int.natAbs_mul]; exact Nat.mul_le_mul (by omega) (by omega)
 omega
end Go.Proofs.Tryz
/- Contracts of the scene's tape: Next, P, V, L; trees of the reference in memory: Code, Tree. -/
namespace Go.Proofs.Tryz
open Go.Eng Go.Big
theorem RL_shape' {V:View} {v:Value} {a b c:Int} (h:RL V v a b c):∃(b1:Bool) (p1:OA) (n1 c1:Nat) (b2:Bool) (p2:OA) (n2 c2:Nat) (b3:Bool) (p3:OA) (n3 c3:Nat),v=.agg #[.bool b1,.slice p1 n1 c1,.bool b2,.slice p2 n2 c2,.bool b3,.slice p3 n3 c3]:=by
 obtain ⟨p,n,s,p',n',s',q,m,e,rfl,-⟩:=h
 exact ⟨_,_,_,_,_,_,_,_,_,_,_,_,rfl⟩
/-- Ints that can be read. -/
def Rdl (V:View) (p:OA) (n:Nat):Prop:=∀i,i < n->∃(a:Addr) (x:Int),addrAdd p (i * 1)=some a/\V.at a (.int .i64 x)
theorem Rdl.le {V V':View} {p:OA} {n:Nat} (h:Rdl V p n) (l:V.Le V'):Rdl V' p n:=fun i hi=>by
 obtain ⟨a,x,e,hx⟩:=h i hi; exact ⟨a,x,e,l.at hx⟩
/-- The tape's block. -/
def TpAt (V:View) (tb:Nat) (p:OA) (n c:Nat) (at_:Int):Prop:=V.w.heap[tb]?=some (.cells #[.slice p n c,.int .i64 at_] 107 (0,0))
theorem c_Next {V:View} {tb:Nat} {p:OA} {n c:Nat} {at_:Int} (k:Int) (hr:Rdl V p n) (hn:n<=400) (hw:TpAt V tb p n c at_) (hx:V.X tb) (h0:0<=at_) (hk:0 < k) (hk2:k<=1000) :
  Acts prog 31 #[.pointer (some ⟨tb,0,none⟩),.int .i64 k] V fun r V'=>∃x at',r=.int .i64 x/\0<=x/\x < k/\0<=at'/\TpAt V' tb p n c at':=by
 refine vc_scene_Tape_Next tb p n c at_ k V _ hw hx ⟨fun g V1 l1 e=>⟨0,at_,rfl,by omega,hk,h0,e⟩,fun g=>?_⟩
 have g:at_ < n:=by have:=of_decide_eq_false g; omega
 obtain ⟨i,rfl⟩:∃i:Nat,at_=i:=⟨at_.toNat,by omega⟩
 obtain ⟨a,x,e1,e2⟩:=hr i (by omega)
 have hs:p.isSome=true:=by
  cases p with
  | none=>simp [addrAdd] at e1
  | some a=>rfl
 have m1:(x.tmod k).natAbs < k.natAbs:=by rw [Int.natAbs_tmod]; exact Nat.mod_lt _ (by omega)
 have w1:i64.wrap ((i:Int) + 1)=((i + 1:Nat):Int):=by rw [i64w (by omega)]; omega
 rw [Int.toNat_natCast,w1]
 have w2:i64.wrap (x.tmod k + k)=x.tmod k + k:=i64w (by omega)
 refine ⟨hs,⟨by omega,by omega⟩,x,⟨a,e1,e2⟩,by omega,fun g2 V2 l2 e=>⟨x.tmod k + k,_,by rw [w2],?_,?_,?_,e⟩,fun g2 V3 l3 e=>⟨_,_,rfl,?_,?_,?_,e⟩⟩
 ·omega
 ·have:=of_decide_eq_true g2; omega
 ·omega
 ·have:=of_decide_eq_false g2; omega
 ·omega
 ·omega
theorem c_P {V:View} {tb:Nat} {p:OA} {n c:Nat} {at_:Int} (hr:Rdl V p n) (hn:n<=400) (hw:TpAt V tb p n c at_) (hx:V.X tb) (h0:0<=at_) :
  Acts prog 157 #[.pointer (some ⟨tb,0,none⟩)] V fun r V'=>∃(x y at':Int),RP V' r (x:Rat) (y:Rat)/\(-4<=x/\x<=4)/\(-4<=y/\y<=4)/\0<=at'/\TpAt V' tb p n c at':=by
 refine vc_scene_Tape_P tb p n c at_ V _ hw hx fun V1 l1 bk1 e1 h1=>(c_Next (V:=V1.lend [bk1]) 9 (hr.le fun b o h=>l1 b o h) hn e1 ⟨by simp,h1⟩ h0 (by omega) (by omega)).mono ?_
 rintro r V2 l2 ⟨x,at1,rfl,x0,x1,t1,hw1⟩
 refine ⟨_,rfl,_,_,_,_,hw1,fun V3 l3 bk5 e3 h3=>(c_Next (V:=V3.lend [bk5]) 9 (hr.le fun b o h=>l3 b o (l2 b o (l1 b o h))) hn e3 ⟨by simp,h3⟩ t1 (by omega) (by omega)).mono ?_⟩
 rintro r V4 l4 ⟨y,at2,rfl,y0,y1,t2,hw2⟩
 refine ⟨_,rfl,_,_,_,_,hw2,fun V5 l5=>?_⟩
 rw [i64w (x:=x - 4) (by omega),i64w (x:=y - 4) (by omega)]
 refine (c_ref04_Xy (x - 4) (y - 4) (by omega) (by omega) (by omega) (by omega)).mono ?_
 rintro r V6 l6 hp
 have hp0:=hp
 obtain ⟨p1,n1,c1,p2,n2,c2,p3,n3,c3,p4,n4,c4,rfl,-⟩:=hp
 exact ⟨_,_,_,_,_,_,_,_,_,_,_,_,_,_,rfl,fun V7 l7 e7=>⟨x - 4,y - 4,at2,hp0.le l7,⟨by omega,by omega⟩,⟨by omega,by omega⟩,t2,e7⟩⟩
theorem RQ.zero {V:View}:RQ V (.agg #[.bool false,.slice none 0 0,.slice none 0 0]) ((0:Int):Rat):=⟨none,0,0,none,0,0,rfl,RD.nil,RD.nil⟩
theorem RP.zero {V:View}:RP V (.agg #[.bool false,.slice none 0 0,.slice none 0 0,.bool false,.slice none 0 0,.slice none 0 0]) ((0:Int):Rat) ((0:Int):Rat):=
 ⟨none,0,0,none,0,0,none,0,0,none,0,0,rfl,RQ.zero,RQ.zero⟩
theorem sz4 {z:Int} (h:-40<=z/\z<=40):Sz 10 (z:Rat):=sz_int (by omega) (by omega)
theorem c_V {V:View} {tb:Nat} {p:OA} {n c:Nat} {at_:Int} (hr:Rdl V p n) (hn:n<=400) (hw:TpAt V tb p n c at_) (hx:V.X tb) (h0:0<=at_) :
  Acts prog 159 #[.pointer (some ⟨tb,0,none⟩)] V fun r V'=>∃(x y at':Int),RP V' r (x:Rat) (y:Rat)/\(-4<=x/\x<=4)/\(-4<=y/\y<=4)/\¬ (x=0/\y=0)/\0<=at'/\TpAt V' tb p n c at':=by
 refine vc_scene_Tape_V tb p n c at_ V _ hw hx fun V1 l1 bk1 e1 h1=>(c_P (V:=V1.lend [bk1]) (hr.le fun b o h=>l1 b o h) hn e1 ⟨by simp,h1⟩ h0).mono ?_
 rintro r V2 l2 ⟨x,y,at1,hp,hx1,hy1,t1,hw1⟩
 have hp0:=hp
 obtain ⟨p1,n1,c1,p2,n2,c2,p3,n3,c3,p4,n4,c4,rfl,-⟩:=hp
 refine ⟨_,_,_,_,_,_,_,_,_,_,_,_,_,_,rfl,_,_,_,_,hw1,fun V3 l3=>(c_ref04_Same (hp0.le fun b o h=>l3 b o h) RP.zero (sz4 (by omega)) (sz4 (by omega)) (sz4 (by omega)) (sz4 (by omega)) (by omega)).mono ?_⟩
 rintro r V4 l4 rfl
 refine ⟨_,rfl,fun g V5 l5=>(c_ref04_Xy 1 0 (by omega) (by omega) (by omega) (by omega)).mono ?_,fun g V8 l8 e8=>⟨x,y,at1,hp0.le fun b o h=>l8 b o (l4 b o (l3 b o h)),hx1,hy1,?_,t1,e8⟩⟩
 ·rintro r V6 l6 hq
  have hq0:=hq
  obtain ⟨p1,n1,c1,p2,n2,c2,p3,n3,c3,p4,n4,c4,rfl,-⟩:=hq
  exact ⟨_,_,_,_,_,_,_,_,_,_,_,_,_,_,rfl,fun V7 l7 e7=>⟨1,0,at1,hq0.le l7,⟨by omega,by omega⟩,⟨by omega,by omega⟩,by omega,t1,e7⟩⟩
 ·rintro ⟨rfl,rfl⟩
  simp at g
theorem c_L {V:View} {tb:Nat} {p:OA} {n c:Nat} {at_:Int} (hr:Rdl V p n) (hn:n<=400) (hw:TpAt V tb p n c at_) (hx:V.X tb) (h0:0<=at_) :
  Acts prog 107 #[.pointer (some ⟨tb,0,none⟩)] V fun r V'=>∃(x:L3) (at':Int),RL V' r x.1 x.2.1 x.2.2/\okL x=true/\Bd x/\0<=at'/\TpAt V' tb p n c at':=by
 refine vc_scene_Tape_L tb p n c at_ V _ hw hx fun V1 l1 bk1 e1 h1=>(c_P (V:=V1.lend [bk1]) (hr.le fun b o h=>l1 b o h) hn e1 ⟨by simp,h1⟩ h0).mono ?_
 rintro r V2 l2 ⟨x,y,at1,hp,hx1,hy1,t1,hw1⟩
 have hp0:=hp
 obtain ⟨p1,n1,c1,p2,n2,c2,p3,n3,c3,p4,n4,c4,rfl,-⟩:=hp
 refine ⟨_,_,_,_,_,_,_,_,_,_,_,_,_,_,rfl,_,_,_,_,hw1,fun V3 l3=>(c_num_Of 1 (by omega) (by omega)).mono ?_⟩
 rintro r V4 l4 hq
 have hq0:=hq
 obtain ⟨p5,n5,c5,p6,n6,c6,rfl⟩:=hq.shape
 refine ⟨_,_,_,_,_,_,_,rfl,fun V5 l5 bk13 e5 h5=>(c_V (V:=V5.lend [bk13]) (hr.le fun b o h=>l5 b o (l4 b o (l3 b o (l2 b o (l1 b o h))))) hn e5 ⟨by simp,h5⟩ t1).mono ?_⟩
 rintro r V6 l6 ⟨u,w,at2,hv,hu1,hw1',hne,t2,hw2⟩
 have hv0:=hv
 obtain ⟨q1,m1,d1,q2,m2,d2,q3,m3,d3,q4,m4,d4,rfl,-⟩:=hv
 refine ⟨_,_,_,_,_,_,_,_,_,_,_,_,_,_,rfl,_,_,_,_,hw2,fun V7 l7=>?_⟩
 have l27:V2.Le V7:=fun b o h=>l7 b o (l6 b o (l5 b o (l4 b o (l3 b o h))))
 have l47:V4.Le V7:=fun b o h=>l7 b o (l6 b o (l5 b o h))
 have l67:V6.Le V7:=fun b o h=>l7 b o h
 refine (c_ref04_Add (hp0.le l27) (hq0.le l47) (hv0.le l67) (k:=10) (m:=10) (sz4 (by omega)) (sz4 (by omega)) (sz4 (by omega)) (sz4 (by omega)) (sz4 (by omega)) (by omega)).mono ?_
 rintro r V8 l8 hs
 have hs0:=hs
 obtain ⟨s1,i1,j1,s2,i2,j2,s3,i3,j3,s4,i4,j4,rfl,-⟩:=hs
 have f1:(x:Rat) + ((1:Int):Rat) * (u:Rat)=((x + u:Int):Rat):=by rw [← Rat.intCast_mul,← Rat.intCast_add,Int.one_mul]
 have f2:(y:Rat) + ((1:Int):Rat) * (w:Rat)=((y + w:Int):Rat):=by rw [← Rat.intCast_mul,← Rat.intCast_add,Int.one_mul]
 refine ⟨_,_,_,_,_,_,_,_,_,_,_,_,_,_,rfl,fun V9 l9=>(c_ref04_Through (hp0.le (l27.trans (l8.trans l9))) (hs0.le l9) (k:=10) (sz4 (by omega)) (sz4 (by omega)) (by rw [f1]; exact sz4 (by omega)) (by rw [f2]; exact sz4 (by omega)) (by omega) (by omega)).mono ?_⟩
 rintro r V10 l10 ⟨-,h⟩
 rw [thr_int] at h
 have n1:((-w:Int):Rat).num=-w:=rfl
 have n2:((u:Int):Rat).num=u:=rfl
 have n3:((w * x - u * y:Int):Rat).num=w * x - u * y:=rfl
 dsimp only at h
 rw [n1,n2,n3] at h
 obtain ⟨l,rfl,hl⟩:=h (by omega)
 have m1:=mul_bd hw1' hx1
 have m2:=mul_bd hu1 hy1
 obtain ⟨k1,k2⟩:=lnOf_ok (a:=-w) (b:=u) (c:=w * x - u * y) (by omega) (by omega) (by omega) (by omega)
 have hl0:=hl
 obtain ⟨b1,u1,v1,w1,b2,u2,v2,w2,b3,u3,v3,w3,rfl⟩:=(RL_shape' hl)
 exact ⟨_,_,_,_,_,_,_,_,_,_,_,_,_,rfl,fun V11 l11 e11=>⟨lnOf (-w) u (w * x - u * y),at2,hl0.le l11,k1,k2,t2,e11⟩⟩
end Go.Proofs.Tryz
