/- A part of the proof (joined by program from: VBsp, TreeA, TreeB, TreeC, TreeD, VTree, TreeE, RefD, VScene, SceneA, SceneB, VKeep, SceneC, VTreeC, TreeF, Row, RowS). -/
import Derived.Test.YtcbcbdbheiopbaaGreatDoorL5
import Derived.Test.YtcbcbdbheiopbaaGreatDoorL13
import Derived.Test.YtcbcbdbheiopbaaGreatDoorL6
import Derived.Test.YtcbcbdbheiopbaaGreatDoorL7
set_option linter.unusedVariables false
open Go.IntKind (i64 u64 u32)
/- By program: the conditions of the functions, from their loaded code. -/
namespace Go.Proofs.Tryz
open Go.Eng
open Go.Value renaming int→I,pointer→P,slice→S,agg→A,bool→B,tuple→T
open Go.IntKind renaming i64→J,u64→U,u32→W
set_option maxRecDepth 100000
theorem vc_bsp_Leaf (b:Bool) (V:View) (R:VR) (h:(∀a,V.Le a->∀c:Nat,(a.blk c (.cells #[I J 0,I J 0,P none,I J 0,I J 0,P none,I J 0,I J 0,P none,P none,P none,B b] 250 (0,0)))->R (P (some ⟨c,0,none⟩)) a)):
 Acts prog 229 #[B b] V R:=
 fd (LF:=LF0) (RF:=[1000015]) [] [] func229 h
theorem vc_bsp_T_IsLeaf (a:OA) (V:View) (R:VR) (h:(a.isSome=true)/\(a.isSome=true)/\(∃b,(∃c,addrAdd a 9=some c/\V.at c (P b))/\(Rt V R (B b.isNone)))):
 Acts prog 161 #[P a] V R:=
 fd (LF:=LF0) (RF:=[1000015]) [] [] func161 h
theorem vc_bsp_New (b c:Int) (d:OA) (e f:Int) (g:OA) (i k:Int) (l m n:OA) (V:View) (R:VR) (h:(∀a,V.Le a->∀o:Nat,(a.blk o (.cells #[I J b,I J c,P d,I J e,I J f,P g,I J i,I J k,P l,P m,P n,B false] 250 (0,0)))->R (P (some ⟨o,0,none⟩)) a)):
 Acts prog 181 #[A #[I J b,I J c,P d,I J e,I J f,P g,I J i,I J k,P l],P m,P n] V R:=
 fd (LF:=LF0) (RF:=[1000015]) [] [] func181 h
theorem vc_bsp_reader_part (f b:Nat) (i:OA) (g l d e:Nat) (m:Int) (u:Bool) (k:List Value) (a:Int) (V:View) (R:VR) (hw100000:V.w.heap[f]?=some (.cells #[S i g l,S (some ⟨b,0,none⟩) d e,I J m,B u] 240 (0,0))) (hx100000:V.X f) (hw100001:V.w.heap[b]?=some (.cells k.toArray 4 (0,0))) (hx100001:V.X b) (hn100000_100001:f≠b) (h:(((a == (-2:Int))=true->(Ca V 229 #[B (a == (-2:Int))] fun f4 f5=>∃a8,f4=P a8/\(∀x,f5.Le x->x.w.heap[f]?=some (.cells #[S i g l,S (some ⟨b,0,none⟩) d e,I J m,B u] 240 (0,0))->x.w.heap[b]?=some (.cells k.toArray 4 (0,0))->R (P a8) x)))/\((a == (-2:Int))=false->(((a == (-1:Int))=true->(Ca V 229 #[B (a == (-2:Int))] fun f6 f7=>∃a9,f6=P a9/\(∀y,f7.Le y->y.w.heap[f]?=some (.cells #[S i g l,S (some ⟨b,0,none⟩) d e,I J m,B u] 240 (0,0))->y.w.heap[b]?=some (.cells k.toArray 4 (0,0))->R (P a9) y)))/\((a == (-1:Int))=false->(((decide (a < (0:Int)))=true->(Ca V 229 #[B false] fun f8 f9=>∃b0,f8=P b0/\(∀z,f9.Le z->z.w.heap[f]?=some (.cells #[S i g l,S (some ⟨b,0,none⟩) d e,I J m,B true] 240 (0,0))->z.w.heap[b]?=some (.cells k.toArray 4 (0,0))->R (P b0) z)))/\((decide (a < (0:Int)))=false->(((decide (a ≥ (g:Int)))=true->(Ca V 229 #[B false] fun g0 g1=>∃b1,g0=P b1/\(∀a0,g1.Le a0->a0.w.heap[f]?=some (.cells #[S i g l,S (some ⟨b,0,none⟩) d e,I J m,B true] 240 (0,0))->a0.w.heap[b]?=some (.cells k.toArray 4 (0,0))->R (P b1) a0)))/\((decide (a ≥ (g:Int)))=false->(0<=a/\a < (d:Int))/\(∃a4,k[0 + (a.toNat * 1)]?=some (B a4)/\((a4=true->(Ca V 229 #[B false] fun g2 g3=>∃b2,g2=P b2/\(∀a1,g3.Le a1->a1.w.heap[f]?=some (.cells #[S i g l,S (some ⟨b,0,none⟩) d e,I J m,B true] 240 (0,0))->a1.w.heap[b]?=some (.cells k.toArray 4 (0,0))->R (P b2) a1)))/\(a4=false->(0<=a/\a < (d:Int))/\((0 + (a.toNat * 1)) + 1<=k.length)/\(i.isSome=true)/\(0<=a/\a < (g:Int))/\(∃b3,∃b4 b5 b6,∃b7,∃b8 b9 c0,∃c1,∃c2 c3 c4,∃c5,∃c6,∃n,addrAdd i (a.toNat * 8)=some n/\V.at (n.add 0) (B b3)/\V.at (n.add 1) (S b4 b5 b6)/\V.at (n.add 2) (B b7)/\V.at (n.add 3) (S b8 b9 c0)/\V.at (n.add 4) (B c1)/\V.at (n.add 5) (S c2 c3 c4)/\V.at (n.add 6) (I J c5)/\V.at (n.add 7) (I J c6)/\(Ca V 125 #[A #[B b3,S b4 b5 b6,B b7,S b8 b9 c0,B c1,S c2 c3 c4]] fun g4 c7=>∃c8,∃c9,∃d0,∃d1,∃d2,∃d3,∃d4,∃d5,∃d6,∃a5,g4=T #[A #[I J c8,I J c9,P d0,I J d1,I J d2,P d3,I J d4,I J d5,P d6],B a5]/\(((!a5)=true->(Ca c7 229 #[B false] fun g5 g6=>∃d7,g5=P d7/\(∀a2,g6.Le a2->a2.w.heap[f]?=some (.cells #[S i g l,S (some ⟨b,0,none⟩) d e,I J (J.wrap (m + (1:Int))),B true] 240 (0,0))->a2.w.heap[b]?=some (.cells (k.set (0 + (a.toNat * 1)) (B true)).toArray 4 (0,0))->R (P d7) a2)))/\((!a5)=false->(∀q,c7.Le q->∀r o:Nat,(q.w.heap[r]?=some (.cells #[S i g l,S (some ⟨o,0,none⟩) d e,I J (J.wrap (m + (1:Int))),B u] 240 (0,0)))->(q.H r)->(q.w.heap[o]?=some (.cells (k.set (0 + (a.toNat * 1)) (B true)).toArray 4 (0,0)))->(q.H o)->(r≠o)->Acts prog 151 #[P (some ⟨r,0,none⟩),I J c5] (q.lend [r,o]) fun g7 a6=>∃d8,g7=P d8/\∃d9 e0 e1,∃e2,∃e3,a6.w.heap[r]?=some (.cells #[S d9 e0 e1,S (some ⟨o,0,none⟩) d e,I J e2,B e3] 240 (0,0))/\∃e4:List Value,a6.w.heap[o]?=some (.cells e4.toArray 4 (0,0))/\(∀s,a6.shut.Le s->∀t p:Nat,(s.w.heap[t]?=some (.cells #[S d9 e0 e1,S (some ⟨p,0,none⟩) d e,I J e2,B e3] 240 (0,0)))->(s.H t)->(s.w.heap[p]?=some (.cells e4.toArray 4 (0,0)))->(s.H p)->(t≠p)->Acts prog 151 #[P (some ⟨t,0,none⟩),I J c6] (s.lend [t,p]) fun g8 a7=>∃e5,g8=P e5/\∃e6 e7 e8,∃e9,∃f0,a7.w.heap[t]?=some (.cells #[S e6 e7 e8,S (some ⟨p,0,none⟩) d e,I J e9,B f0] 240 (0,0))/\∃f1:List Value,a7.w.heap[p]?=some (.cells f1.toArray 4 (0,0))/\(∀f2,a7.shut.Le f2->Acts prog 181 #[A #[I J c8,I J c9,P d0,I J d1,I J d2,P d3,I J d4,I J d5,P d6],P d8,P e5] f2 fun g9 i0=>∃f3,g9=P f3/\(∀a3,i0.Le a3->a3.w.heap[f]?=some (.cells #[S e6 e7 e8,S (some ⟨b,0,none⟩) d e,I J e9,B f0] 240 (0,0))->a3.w.heap[b]?=some (.cells f1.toArray 4 (0,0))->R (P f3) a3)))))))))))))))))))):
 Acts prog 151 #[P (some ⟨f,0,none⟩),I J a] V R:=
 fn_does (LF:=LF0) (RF:=[1000015]) (β0:=(upd1 (upd1 (fun _=>0) 100000 f) 100001 b)) tab_ok mixed [] [] func151 (by kernel_rfl) [(0,.c (.ptr 100000 0)),(1,.c (.v (I J a)))] [(100000,⟨.lit [.v (S i g l),.slc 100001 0 d e,.v (I J m),.v (B u)],240⟩),(100001,⟨.row k,4⟩)] (by kernel_rfl) ⟨⟨hw100000,hx100000⟩,⟨hn100000_100001,trivial⟩,⟨⟨hw100001,hx100001⟩,trivial,trivial⟩⟩ h (by kernel_rfl)
theorem vc_bsp_Of (i:Int) (k:OA) (a l:Nat) (V:View) (R:VR) (h:(((decide ((a:Int) > (65536:Int)))=true->(Rt V R (T #[P none,B false])))/\((decide ((a:Int) > (65536:Int)))=false->(0<=(a:Int))/\((a:Int)<=(a:Int))/\((1:Int) * (a:Int)<=140737488355328)/\(∀c,V.Le c->∀d b:Nat,(c.w.heap[d]?=some (.cells #[S k a l,S (some ⟨b,0,none⟩) ((a:Int).toNat) ((a:Int).toNat),I J 0,B false] 240 (0,0)))->(c.H d)->(c.w.heap[b]?=some (.cells (List.replicate ((a:Int).toNat) (B false)).toArray 4 (0,0)))->(c.H b)->(d≠b)->Acts prog 151 #[P (some ⟨d,0,none⟩),I J i] (c.lend [d,b]) fun r e=>∃n,r=P n/\∃s t u,∃f,∃g,e.w.heap[d]?=some (.cells #[S s t u,S (some ⟨b,0,none⟩) ((a:Int).toNat) ((a:Int).toNat),I J f,B g] 240 (0,0))/\∃x:List Value,e.w.heap[b]?=some (.cells x.toArray 4 (0,0))/\((g=true->(∀o,e.shut.Le o->R (T #[P none,B false]) o))/\(g=false->(((f != (a:Int))=true->(∀p,e.shut.Le p->R (T #[P none,B false]) p))/\((f != (a:Int))=false->(∀q,e.shut.Le q->R (T #[P n,B true]) q))))))))):
 Acts prog 73 #[A #[I J i,S k a l]] V R:=
 fd (LF:=LF0) (RF:=[1000015]) [] [] func73 h
end Go.Proofs.Tryz
/- Trees of package bsp in memory; contracts: Leaf, IsLeaf, New, reader.part, Of. -/
namespace Go.Proofs.Tryz
open Go.Eng Go.Big
/-- A tree of package bsp. -/
def RT (V:View):OA->Tr->Prop
 | p,.leaf i=>∃(b:Nat) (c0 c1 c2 c3 c4 c5 c6 c7 c8:Value) (r:OA),p=some ⟨b,0,none⟩/\V.blk b (.cells #[c0,c1,c2,c3,c4,c5,c6,c7,c8,.pointer none,.pointer r,.bool i] 250 (0,0))
 | p,.node l x y=>∃(b:Nat) (x1 x2:Int) (x3:OA) (y1 y2:Int) (y3:OA) (z1 z2:Int) (z3:OA) (pl pr:OA) (i:Bool),p=some ⟨b,0,none⟩ /\
   V.blk b (.cells #[.int .i64 x1,.int .i64 x2,.pointer x3,.int .i64 y1,.int .i64 y2,.pointer y3,.int .i64 z1,.int .i64 z2,.pointer z3,.pointer pl,.pointer pr,.bool i] 250 (0,0)) /\
   RLn V (.agg #[.int .i64 x1,.int .i64 x2,.pointer x3,.int .i64 y1,.int .i64 y2,.pointer y3,.int .i64 z1,.int .i64 z2,.pointer z3]) l.1 l.2.1 l.2.2/\RT V pl x/\RT V pr y
theorem RT.le {V V':View} (h:V.Le V'):∀{t:Tr} {p:OA},RT V p t->RT V' p t
 | .leaf i,p,⟨b,c0,c1,c2,c3,c4,c5,c6,c7,c8,r,e,hb⟩=>⟨b,c0,c1,c2,c3,c4,c5,c6,c7,c8,r,e,h _ _ hb⟩
 | .node l x y,p,⟨b,x1,x2,x3,y1,y2,y3,z1,z2,z3,pl,pr,i,e,hb,hl,hx,hy⟩=>⟨b,x1,x2,x3,y1,y2,y3,z1,z2,z3,pl,pr,i,e,h _ _ hb,hl.le h,RT.le h hx,RT.le h hy⟩
theorem RT.isS {V:View} {t:Tr} {p:OA} (h:RT V p t):p.isSome=true:=by
 cases t with
 | leaf i=>obtain ⟨b,c0,c1,c2,c3,c4,c5,c6,c7,c8,r,rfl,hb⟩:=h; rfl
 | node l x y=>obtain ⟨b,x1,x2,x3,y1,y2,y3,z1,z2,z3,pl,pr,i,rfl,-⟩:=h; rfl
theorem c_bsp_Leaf {V:View} (i:Bool):Acts prog 229 #[.bool i] V fun r V'=>∃p,r=.pointer p/\RT V' p (.leaf i):=
 vc_bsp_Leaf i V _ fun V1 l1 b hb=>⟨_,rfl,b,_,_,_,_,_,_,_,_,_,_,rfl,hb⟩
theorem c_bsp_IsLeaf {V:View} {p:OA} {t:Tr} (h:RT V p t):Acts prog 161 #[.pointer p] V fun r V'=>r=.bool t.isLeaf:=by
 cases t with
 | leaf i=>
  obtain ⟨b,c0,c1,c2,c3,c4,c5,c6,c7,c8,r,rfl,hb⟩:=h
  exact vc_bsp_T_IsLeaf _ V _ ⟨rfl,rfl,_,rdc hb 9 rfl,fun V1 l1=>rfl⟩
 | node l x y=>
  obtain ⟨b,x1,x2,x3,y1,y2,y3,z1,z2,z3,pl,pr,i,rfl,hb,hl,hx,hy⟩:=h
  refine vc_bsp_T_IsLeaf _ V _ ⟨rfl,rfl,_,rdc hb 9 rfl,fun V1 l1=>?_⟩
  have:=hx.isS
  cases pl with
  | none=>cases this
  | some a=>rfl
theorem c_bsp_New {V:View} {v:Value} {l:L3} {p q:OA} {x y:Tr} (hl:RLn V v l.1 l.2.1 l.2.2) (hx:RT V p x) (hy:RT V q y) :
  Acts prog 181 #[v,.pointer p,.pointer q] V fun r V'=>∃p',r=.pointer p'/\RT V' p' (.node l x y):=by
 have hl0:=hl
 obtain ⟨x1,x2,x3,y1,y2,y3,z1,z2,z3,rfl,-⟩:=hl
 exact vc_bsp_New _ _ _ _ _ _ _ _ _ p q V _ fun V1 l1 b hb=>⟨_,rfl,b,_,_,_,_,_,_,_,_,_,_,_,_,rfl,hb,hl0.le l1,hx.le l1,hy.le l1⟩
/-! nodes -/
/-- A line in any form: right numbers, or what is no line. -/
def RLq (V:View) (v:Value) (l:L3):Prop:=RL V v l.1 l.2.1 l.2.2 \/ okL l=false/\∃b1 p n c xs b2 q m e ys b3 s i j zs,v=.agg #[.bool b1,.slice p n c,.bool b2,.slice q m e,.bool b3,.slice s i j]/\RD V p n c xs/\RD V q m e ys/\RD V s i j zs /\
 okLn b1 xs b2 ys b3 zs=false/\(xs.length<=1000000/\ys.length<=1000000/\zs.length<=1000000)/\Sz 1000000 (ival b1 xs:Rat)/\Sz 1000000 (ival b2 ys:Rat)/\Sz 1000000 (ival b3 zs:Rat)
theorem RLq.le {V V':View} {v:Value} {l:L3} (h:RLq V v l) (e:V.Le V'):RLq V' v l:=by
 rcases h with h | ⟨ho,b1,p,n,c,xs,b2,q,m,e',ys,b3,s,i,j,zs,hv,h1,h2,h3,h4⟩
 ·exact .inl (h.le e)
 ·exact .inr ⟨ho,b1,p,n,c,xs,b2,q,m,e',ys,b3,s,i,j,zs,hv,h1.le e,h2.le e,h3.le e,h4⟩
theorem RLq.ok {V:View} {v:Value} {l:L3} (h:RLq V v l) (ho:okL l=true):RL V v l.1 l.2.1 l.2.2:=by
 rcases h with h | ⟨h,-⟩
 ·exact h
 ·rw [ho] at h; cases h
theorem c_geo_LnOf_q {V:View} {v:Value} {x:L3} (h:RLq V v x) (hb:Bd x) :
  Acts prog 125 #[v] V fun r V'=>∃w,r=.tuple #[w,.bool (okL x)]/\LnSh w/\(okL x=true->RLn V' w x.1 x.2.1 x.2.2):=by
 rcases h with h | ⟨ho,b1,p,n,c,xs,b2,q,m,e',ys,b3,s,i,j,zs,rfl,h1,h2,h3,h4,⟨m1,m2,m3⟩,s1,s2,s3⟩
 ·exact c_geo_LnOf' h hb
 ·refine (c_geo_LnOf b1 b2 b3 h1 h2 h3 (by omega) (by omega) (by omega) s1 s2 s3 (by omega)).mono ?_
  rintro r V2 l2 ⟨w,rfl,g1,g2⟩
  rw [h4] at g2 ⊢
  rw [ho]
  exact ⟨w,rfl,g1,fun h=>by cases h⟩
/-- Rows of eight cells that hold nodes. -/
def NR (V:View) (vs:List Value) (l:List Nd):Prop:=∀(i:Nat) (d:Nd),l[i]?=some d->∃(b1:Bool) (p1:OA) (n1 c1:Nat) (b2:Bool) (p2:OA) (n2 c2:Nat) (b3:Bool) (p3:OA) (n3 c3:Nat),
 (∀j v,([.bool b1,.slice p1 n1 c1,.bool b2,.slice p2 n2 c2,.bool b3,.slice p3 n3 c3,.int .i64 d.left,.int .i64 d.right]:List Value)[j]?=some v->vs[i * 8 + j]?=some v) /\
 RLq V (.agg #[.bool b1,.slice p1 n1 c1,.bool b2,.slice p2 n2 c2,.bool b3,.slice p3 n3 c3]) d.ln
theorem NR.le {V V':View} {vs:List Value} {l:List Nd} (h:NR V vs l) (hl:V.Le V'):NR V' vs l:=fun i d hd=>by
 obtain ⟨b1,p1,n1,c1,b2,p2,n2,c2,b3,p3,n3,c3,h1,h2⟩:=h i d hd
 exact ⟨b1,p1,n1,c1,b2,p2,n2,c2,b3,p3,n3,c3,h1,h2.le hl⟩
/-- A slice of nodes that is seen. -/
structure NS (V:View) (p:OA) (n c:Nat) (l:List Nd):Prop where
 len:n=l.length
 cap:n<=c
 row:∃vs,V.sl p vs/\NR V vs l
 nilc:p.isNone=true->c=0
theorem NS.le {V V':View} {p:OA} {n c:Nat} {l:List Nd} (h:NS V p n c l) (hl:V.Le V'):NS V' p n c l:=by
 obtain ⟨h1,h2,⟨vs,h3,h4⟩,h5⟩:=h
 exact ⟨h1,h2,⟨vs,hl.sl h3,h4.le hl⟩,h5⟩
theorem NS.nil {V:View}:NS V none 0 0 []:=⟨rfl,Nat.le_refl _,⟨[],fun i v h=>by simp at h,fun i d h=>by simp at h⟩,fun _=>rfl⟩
theorem NS.isS {V:View} {p:OA} {n c:Nat} {l:List Nd} (h:NS V p n c l) (hn:n≠0):p.isSome=true:=by
 cases p with
 | none=>have:=h.nilc rfl; have:=h.cap; omega
 | some a=>rfl
def bools (l:List Bool):List Value:=l.map .bool
theorem bools_get {l:List Bool} {i:Nat} {b:Bool} (h:l[i]?=some b):(bools l)[i]?=some (.bool b):=by simp [bools,h]
end Go.Proofs.Tryz
/- Contracts: reader.part, bsp.Of. -/
namespace Go.Proofs.Tryz
open Go.Eng Go.Big
/-- A node is read. -/
theorem NS.rd {V:View} {p:OA} {n c:Nat} {l:List Nd} (h:NS V p n c l) {k:Nat} {d:Nd} (hd:l[k]?=some d) :
  ∃(b1:Bool) (p1:OA) (n1 c1:Nat) (b2:Bool) (p2:OA) (n2 c2:Nat) (b3:Bool) (p3:OA) (n3 c3:Nat) (a:Addr),addrAdd p (k * 8)=some a /\
   V.at (a.add 0) (.bool b1)/\V.at (a.add 1) (.slice p1 n1 c1)/\V.at (a.add 2) (.bool b2)/\V.at (a.add 3) (.slice p2 n2 c2)/\V.at (a.add 4) (.bool b3)/\V.at (a.add 5) (.slice p3 n3 c3)/\V.at (a.add 6) (.int .i64 d.left)/\V.at (a.add 7) (.int .i64 d.right) /\
   RLq V (.agg #[.bool b1,.slice p1 n1 c1,.bool b2,.slice p2 n2 c2,.bool b3,.slice p3 n3 c3]) d.ln:=by
 obtain ⟨vs,hs,hr⟩:=h.row
 obtain ⟨b1,p1,n1,c1,b2,p2,n2,c2,b3,p3,n3,c3,h1,h2⟩:=hr k d hd
 obtain ⟨ad,rfl,-⟩:=hs _ _ (h1 0 _ rfl)
 have key:∀j v,([.bool b1,.slice p1 n1 c1,.bool b2,.slice p2 n2 c2,.bool b3,.slice p3 n3 c3,.int .i64 d.left,.int .i64 d.right]:List Value)[j]?=some v->V.at ((ad.add (k * 8)).add j) v:=by
  intro j v hv
  obtain ⟨ad',e,ha⟩:=hs _ _ (h1 j v hv)
  cases e
  rw [addadd]
  exact ha
 exact ⟨b1,p1,n1,c1,b2,p2,n2,c2,b3,p3,n3,c3,_,rfl,key 0 _ rfl,key 1 _ rfl,key 2 _ rfl,key 3 _ rfl,key 4 _ rfl,key 5 _ rfl,key 6 _ rfl,key 7 _ rfl,h2⟩
theorem c_bsp_part {l:List Nd} (hb:∀x ∈ l,Bd x.ln) (hlen:l.length<=65536):∀(f:Nat) (n:Int) (s:RS) {V:View} {rb sb:Nat} {npp:OA} {nc:Nat},NS V npp l.length nc l ->
  V.w.heap[rb]?=some (.cells #[.slice npp l.length nc,.slice (some ⟨sb,0,none⟩) l.length l.length,.int .i64 (s.cnt:Int),.bool s.bad] 240 (0,0))->V.X rb ->
  V.w.heap[sb]?=some (.cells (bools s.seen).toArray 4 (0,0))->V.X sb->rb≠sb->s.seen.length=l.length->s.seen.count false < f->s.cnt + s.seen.count false<=l.length ->
  Acts prog 151 #[.pointer (some ⟨rb,0,none⟩),.int .i64 n] V fun r V'=>∃p,r=.pointer p/\RT V' p (prt l f n s).1 /\
   V'.w.heap[rb]?=some (.cells #[.slice npp l.length nc,.slice (some ⟨sb,0,none⟩) l.length l.length,.int .i64 ((prt l f n s).2.cnt:Int),.bool (prt l f n s).2.bad] 240 (0,0)) /\
   V'.w.heap[sb]?=some (.cells (bools (prt l f n s).2.seen).toArray 4 (0,0)):=by
 intro f
 induction f with
 | zero=>intro n s V rb sb npp nc _ _ _ _ _ _ _ h; omega
 | succ f ih=>
  intro n s V rb sb npp nc hns hw1 hx1 hw2 hx2 hne hsl hcf hct
  refine vc_bsp_reader_part rb sb npp l.length nc l.length l.length s.cnt s.bad (bools s.seen) n V _ hw1 hx1 hw2 hx2 hne ⟨fun h0 V1 l1=>(c_bsp_Leaf _).mono ?_,fun h0=>⟨fun h1 V4 l4=>(c_bsp_Leaf _).mono ?_,fun h1=>⟨fun h2 V7 l7=>(c_bsp_Leaf _).mono ?_,fun h2=>⟨fun h3 V10 l10=>(c_bsp_Leaf _).mono ?_,fun h3=>?_⟩⟩⟩⟩
  ·rintro r V2 l2 ⟨p,rfl,hp⟩
   have e0:n=-2:=by simpa using h0
   have e:prt l (f + 1) n s=(.leaf true,s):=by simp [prt,e0]
   rw [h0] at hp
   exact ⟨p,rfl,fun V3 l3 g1 g2=>⟨p,rfl,by rw [e]; exact hp.le l3,by rw [e]; exact g1,by rw [e]; exact g2⟩⟩
  ·rintro r V2 l2 ⟨p,rfl,hp⟩
   have e0:n=-1:=by simpa using h1
   have e:prt l (f + 1) n s=(.leaf false,s):=by simp [prt,e0]
   rw [h0] at hp
   exact ⟨p,rfl,fun V3 l3 g1 g2=>⟨p,rfl,by rw [e]; exact hp.le l3,by rw [e]; exact g1,by rw [e]; exact g2⟩⟩
  ·rintro r V2 l2 ⟨p,rfl,hp⟩
   have n0:¬ n=-2:=by simpa using h0
   have n1:¬ n=-1:=by simpa using h1
   have n2:n < 0:=by simpa using h2
   have e:prt l (f + 1) n s=(.leaf false,{ s with bad:=true }):=by simp [prt,n0,n1,n2]
   exact ⟨p,rfl,fun V3 l3 g1 g2=>⟨p,rfl,by rw [e]; exact hp.le l3,by rw [e]; exact g1,by rw [e]; exact g2⟩⟩
  ·rintro r V2 l2 ⟨p,rfl,hp⟩
   have n0:¬ n=-2:=by simpa using h0
   have n1:¬ n=-1:=by simpa using h1
   have n2:¬ n < 0:=by simpa using h2
   have n3:(l.length:Int)<=n:=by simpa using h3
   have e:prt l (f + 1) n s=(.leaf false,{ s with bad:=true }):=by
    simp only [prt,n0,n1,n2,if_false]
    rw [List.getElem?_eq_none (by omega)]
   exact ⟨p,rfl,fun V3 l3 g1 g2=>⟨p,rfl,by rw [e]; exact hp.le l3,by rw [e]; exact g1,by rw [e]; exact g2⟩⟩
  ·have n0:¬ n=-2:=by simpa using h0
   have n1:¬ n=-1:=by simpa using h1
   have n2:¬ n < 0:=by simpa using h2
   have n3:n < (l.length:Int):=by simpa using h3
   clear h0 h1 h2 h3
   obtain ⟨k,rfl⟩:=Int.eq_ofNat_of_zero_le (Int.not_lt.1 n2)
   have hk:k < l.length:=by omega
   have hks:k < s.seen.length:=by omega
   simp only [Int.toNat_natCast,Nat.mul_one,Nat.zero_add]
   have hsk:s.seen[k]?=some s.seen[k]:=List.getElem?_eq_getElem hks
   have hlk:l[k]?=some l[k]:=List.getElem?_eq_getElem hk
   refine ⟨⟨by omega,n3⟩,s.seen[k],bools_get hsk,fun h4 V13 l13=>(c_bsp_Leaf _).mono ?_,fun h4=>⟨⟨by omega,n3⟩,by simp [bools]; omega,hns.isS (by omega),⟨by omega,n3⟩,?_⟩⟩
   ·rintro r V2 l2 ⟨p,rfl,hp⟩
    have e:prt l (f + 1) (k:Int) s=(.leaf false,{ s with bad:=true }):=by
     simp only [prt,n0,n1,n2,if_false,Int.toNat_natCast]
     rw [hsk,h4,hlk]
    exact ⟨p,rfl,fun V3 l3 g1 g2=>⟨p,rfl,by rw [e]; exact hp.le l3,by rw [e]; exact g1,by rw [e]; exact g2⟩⟩
   ·obtain ⟨b1,p1,m1,c1,b2,p2,m2,c2,b3,p3,m3,c3,a,ha,a0,a1,a2,a3,a4,a5,a6,a7,hL⟩:=hns.rd hlk
    refine ⟨b1,p1,m1,c1,b2,p2,m2,c2,b3,p3,m3,c3,_,_,a,ha,a0,a1,a2,a3,a4,a5,a6,a7,fun V16 l16=>(c_geo_LnOf_q (hL.le l16) (hb _ (List.getElem_mem hk))).mono ?_⟩
    rintro r V17 l17 ⟨w,rfl,⟨x1,x2,x3,y1,y2,y3,z1,z2,z3,rfl⟩,hw⟩
    rw [h4] at hsk
    have hset:(bools s.seen).set k (.bool true)=bools (s.seen.set k true):=by simp [bools,List.map_set]
    have hcount:=count_set hsk
    have w1:i64.wrap ((s.cnt:Int) + 1)=((s.cnt + 1:Nat):Int):=by rw [i64w (by omega)]; omega
    rw [hset,w1]
    refine ⟨_,_,_,_,_,_,_,_,_,_,rfl,fun h5 V18 l18=>(c_bsp_Leaf _).mono ?_,fun h5 V21 l21 bk1 bk2 g1 g2 g3 g4 g5=>?_⟩
    ·rintro r V2 l2 ⟨p,rfl,hp⟩
     have h5:okL l[k].ln=false:=by simpa using h5
     have e:prt l (f + 1) (k:Int) s=(.leaf false,⟨s.seen.set k true,s.cnt + 1,true⟩):=by
      simp only [prt,n0,n1,n2,if_false,Int.toNat_natCast]
      rw [hsk,hlk]
      simp [h5]
     exact ⟨p,rfl,fun V3 l3 g1 g2=>⟨p,rfl,by rw [e]; exact hp.le l3,by rw [e]; exact g1,by rw [e]; exact g2⟩⟩
    ·have h5:okL l[k].ln=true:=by simpa using h5
     have lv:V.Le V21:=l16.trans (l17.trans l21)
     have lX:∀(U:View) (u v:Nat),U.H u->U.H v->(U.lend [u,v]).X u/\(U.lend [u,v]).X v:=fun U u v hu hv=>⟨⟨by simp,hu⟩,⟨by simp,hv⟩⟩
     have i1:=ih l[k].left ⟨s.seen.set k true,s.cnt + 1,s.bad⟩ (V:=V21.lend [bk1,bk2]) (hns.le lv) g1 (lX _ _ _ g2 g4).1 g3 (lX _ _ _ g2 g4).2 g5 (by simp [hsl]) (by dsimp only; omega) (by dsimp only; omega)
     have hm:=prt_mono l f l[k].left ⟨s.seen.set k true,s.cnt + 1,s.bad⟩
     have hcc:=prt_cnt l f l[k].left ⟨s.seen.set k true,s.cnt + 1,s.bad⟩
     have e:prt l (f + 1) (k:Int) s=(.node l[k].ln (prt l f l[k].left ⟨s.seen.set k true,s.cnt + 1,s.bad⟩).1 (prt l f l[k].right (prt l f l[k].left ⟨s.seen.set k true,s.cnt + 1,s.bad⟩).2).1,(prt l f l[k].right (prt l f l[k].left ⟨s.seen.set k true,s.cnt + 1,s.bad⟩).2).2):=by
      simp only [prt,n0,n1,n2,if_false,Int.toNat_natCast]
      rw [hsk,hlk]
      simp [h5]
     rw [e]
     clear e
     dsimp only
     generalize prt l f l[k].left ⟨s.seen.set k true,s.cnt + 1,s.bad⟩=q1 at *
     obtain ⟨t1,s1⟩:=q1
     dsimp only at i1 hm hcc ⊢
     refine i1.mono ?_
     rintro r V22 l22 ⟨p,rfl,hp,e1,e2⟩
     refine ⟨p,rfl,_,_,_,_,_,e1,_,e2,fun V23 l23 bk3 bk4 f1 f2 f3 f4 f5=>?_⟩
     have lv2:V21.Le V23:=fun b o h=>l23 b o (l22 b o h)
     have i2:=ih l[k].right s1 (V:=V23.lend [bk3,bk4]) (hns.le (lv.trans lv2)) f1 (lX _ _ _ f2 f4).1 f3 (lX _ _ _ f2 f4).2 f5 (by rw [hm.2]; simp [hsl]) (by omega) (by omega)
     generalize prt l f l[k].right s1=q2 at *
     obtain ⟨t2,s2⟩:=q2
     dsimp only at i2 ⊢
     refine i2.mono ?_
     rintro r V24 l24 ⟨q,rfl,hq,e3,e4⟩
     refine ⟨q,rfl,_,_,_,_,_,e3,_,e4,fun V25 l25=>?_⟩
     have l24':V23.Le V24:=fun b o h=>l24 b o h
     have l25':V24.Le V25:=fun b o h=>l25 b o h
     have lw:V17.Le V25:=l21.trans (lv2.trans (l24'.trans l25'))
     have l23':V22.Le V23:=fun b o h=>l23 b o h
     refine (c_bsp_New ((hw h5).le lw) (hp.le (l23'.trans (l24'.trans l25'))) (hq.le l25')).mono ?_
     rintro r V26 l26 ⟨u,rfl,hu⟩
     exact ⟨u,rfl,fun V27 l27 g1 g2=>⟨u,rfl,hu.le l27,g1,g2⟩⟩
theorem c_bsp_Of {V:View} {l:List Nd} (hb:∀x ∈ l,Bd x.ln) {p:OA} {n c:Nat} (root:Int) (h:NS V p n c l) :
  Acts prog 73 #[.agg #[.int .i64 root,.slice p n c]] V fun r V'=>(ofT l root=none->∃q,r=.tuple #[.pointer q,.bool false])/\(∀t,ofT l root=some t->∃q,r=.tuple #[.pointer q,.bool true]/\RT V' q t):=by
 have hl:=h.len
 subst hl
 refine vc_bsp_Of root p l.length c V _ ⟨fun h0 V1 l1=>?_,fun h0=>⟨by omega,Int.le_refl _,?_,fun V2 l2 bk1 bk2 g1 g2 g3 g4 g5=>?_⟩⟩
 ·have h0:65536 < l.length:=by simp at h0; omega
  have e:ofT l root=none:=by unfold ofT; rw [if_pos h0]
  exact ⟨fun _=>⟨_,rfl⟩,fun t ht=>by rw [e] at ht; cases ht⟩
 ·have h0:¬ 65536 < l.length:=by simp at h0; omega
  omega
 ·have h0:¬ 65536 < l.length:=by simp at h0; omega
  simp only [Int.toNat_natCast] at g1 g3 ⊢
  have hr:List.replicate l.length (Value.bool false)=bools (List.replicate l.length false):=by simp [bools]
  rw [hr] at g3
  have hc0:(List.replicate l.length false).count false=l.length:=by simp
  refine (c_bsp_part hb (by omega) (l.length + 1) root ⟨List.replicate l.length false,0,false⟩ (V:=V2.lend [bk1,bk2]) (h.le l2) g1 ⟨by simp,g2⟩ g3 ⟨by simp,g4⟩ g5 (by simp) (by dsimp only; omega) (by dsimp only; omega)).mono ?_
  rintro r V3 l3 ⟨q,rfl,hq,e1,e2⟩
  have hof:ofT l root=if (prt l (l.length + 1) root ⟨List.replicate l.length false,0,false⟩).2.bad=true \/ (prt l (l.length + 1) root ⟨List.replicate l.length false,0,false⟩).2.cnt≠l.length then none else some (prt l (l.length + 1) root ⟨List.replicate l.length false,0,false⟩).1:=by
   unfold ofT; rw [if_neg h0]
  rw [hof]
  clear hof
  generalize prt l (l.length + 1) root ⟨List.replicate l.length false,0,false⟩=r0 at *
  obtain ⟨t,s⟩:=r0
  refine ⟨q,rfl,_,_,_,_,_,e1,_,e2,fun h1 V4 l4=>?_,fun h1=>⟨fun h2 V5 l5=>?_,fun h2 V6 l6=>?_⟩⟩
  ·rw [if_pos (.inl h1)]
   exact ⟨fun _=>⟨_,rfl⟩,fun t ht=>by cases ht⟩
  ·have h2:s.cnt≠l.length:=by simp at h2; omega
   rw [if_pos (.inr h2)]
   exact ⟨fun _=>⟨_,rfl⟩,fun t ht=>by cases ht⟩
  ·have h2:s.cnt=l.length:=by simp at h2; omega
   dsimp only at h1 ⊢
   rw [if_neg (by rw [h1,h2]; simp)]
   exact ⟨fun e=>(by cases e),fun t1 ht=>by cases ht; exact ⟨q,rfl,RT.le (V:=V3) (V':=V6) (fun b o h=>l6 b o h) hq⟩⟩
end Go.Proofs.Tryz
/- Contracts: how package bsp writes a tree. -/
namespace Go.Proofs.Tryz
open Go.Eng Go.Big
theorem Acts.monoH {f:FuncId} {args:Array Value} {V:View} {R R':Value->View->Prop} (h:Acts prog f args V R) (hR:∀r V',V.Le V'->(∀b,V'.H b->V.H b)->R r V'->R' r V'):Acts prog f args V R':=
 ⟨h.1,h.2.mono fun _ w' ⟨r,he,hx,hr⟩=>⟨r,he,hx,hR r _ (V.le_to w' hx) (fun _ hb=>hb) hr⟩⟩
theorem vb_ne {vs:List Value} {n b:Nat} (h:vs≠[]):vb vs n b=b:=by cases vs with | nil=>exact absurd rfl h | cons v r=>rfl
theorem NR.push {V:View} {vs sp:List Value} {l:List Nd} (h:NR V vs l) (hl:l.length * 8<=vs.length) {ln:L3} {x y:Int} {b1:Bool} {p1:OA} {n1 c1:Nat} {b2:Bool} {p2:OA} {n2 c2:Nat} {b3:Bool} {p3:OA} {n3 c3:Nat}
  (hL:RL V (.agg #[.bool b1,.slice p1 n1 c1,.bool b2,.slice p2 n2 c2,.bool b3,.slice p3 n3 c3]) ln.1 ln.2.1 ln.2.2) :
  NR V (vs.take (l.length * 8)++[.bool b1,.slice p1 n1 c1,.bool b2,.slice p2 n2 c2,.bool b3,.slice p3 n3 c3,.int .i64 x,.int .i64 y]++sp) (l++[⟨ln,x,y⟩]):=by
 intro i d hd
 rcases Nat.lt_or_ge i l.length with hi | hi
 ·rw [List.getElem?_append_left hi] at hd
  obtain ⟨b1',p1',n1',c1',b2',p2',n2',c2',b3',p3',n3',c3',h1,h2⟩:=h i d hd
  refine ⟨b1',p1',n1',c1',b2',p2',n2',c2',b3',p3',n3',c3',fun j v hv=>?_,h2⟩
  have hj:j < 8:=by
   rcases Nat.lt_or_ge j 8 with hj | hj
   ·exact hj
   ·rw [List.getElem?_eq_none (by simpa using hj)] at hv; cases hv
  have:=h1 j v hv
  rw [List.append_assoc,List.getElem?_append_left (by rw [List.length_take]; omega),List.getElem?_take,if_pos (by omega)]
  exact this
 ·rw [List.getElem?_append_right hi] at hd
  have hi':i=l.length:=by
   rcases Nat.lt_or_ge (i - l.length) 1 with h' | h'
   ·omega
   ·rw [List.getElem?_eq_none (by simpa using h')] at hd; cases hd
  subst hi'
  simp only [Nat.sub_self,List.getElem?_cons_zero,Option.some.injEq] at hd
  subst hd
  refine ⟨b1,p1,n1,c1,b2,p2,n2,c2,b3,p3,n3,c3,fun j v hv=>?_,.inl hL⟩
  have hj:j < 8:=by
   rcases Nat.lt_or_ge j 8 with hj | hj
   ·exact hj
   ·rw [List.getElem?_eq_none (by simpa using hj)] at hv; cases hv
  rw [List.append_assoc,List.getElem?_append_right (by rw [List.length_take]; omega),List.length_take,Nat.min_eq_left hl,Nat.add_sub_cancel_left,List.getElem?_append_left (by simpa using hj)]
  exact hv
theorem NR.set6 {V:View} {vs:List Value} {l:List Nd} (h:NR V vs l) {k:Nat} {d:Nd} (hd:l[k]?=some d) {x:Int}:NR V (vs.set (k * 8 + 6) (.int .i64 x)) (l.set k ⟨d.ln,x,d.right⟩):=by
 intro i d' hd'
 rw [List.getElem?_set] at hd'
 split at hd'
 ·rename_i e
  subst e
  split at hd'
  ·cases hd'
   obtain ⟨b1,p1,n1,c1,b2,p2,n2,c2,b3,p3,n3,c3,h1,h2⟩:=h k d hd
   refine ⟨b1,p1,n1,c1,b2,p2,n2,c2,b3,p3,n3,c3,fun j v hv=>?_,h2⟩
   rw [List.getElem?_set]
   by_cases hj:j=6
   ·subst hj
    have:=h1 6 _ rfl
    have hlt:k * 8 + 6 < vs.length:=by
     rcases Nat.lt_or_ge (k * 8 + 6) vs.length with h | h
     ·exact h
     ·rw [List.getElem?_eq_none h] at this; cases this
    rw [if_pos rfl,if_pos hlt]
    exact hv
   ·rw [if_neg (by omega)]
    refine h1 j v ?_
    match j,hj,hv with
    | 0,_,hv=>exact hv
    | 1,_,hv=>exact hv
    | 2,_,hv=>exact hv
    | 3,_,hv=>exact hv
    | 4,_,hv=>exact hv
    | 5,_,hv=>exact hv
    | 6,hj,_=>exact absurd rfl hj
    | 7,_,hv=>exact hv
    | n + 8,_,hv=>exact hv
  ·cases hd'
 ·rename_i e
  obtain ⟨b1,p1,n1,c1,b2,p2,n2,c2,b3,p3,n3,c3,h1,h2⟩:=h i d' hd'
  refine ⟨b1,p1,n1,c1,b2,p2,n2,c2,b3,p3,n3,c3,fun j v hv=>?_,h2⟩
  have hj:j < 8:=by
   rcases Nat.lt_or_ge j 8 with hj | hj
   ·exact hj
   ·rw [List.getElem?_eq_none (by simpa using hj)] at hv; cases hv
  rw [List.getElem?_set_ne (by omega)]
  exact h1 j v hv
theorem NR.set7 {V:View} {vs:List Value} {l:List Nd} (h:NR V vs l) {k:Nat} {d:Nd} (hd:l[k]?=some d) {x:Int}:NR V (vs.set (k * 8 + 7) (.int .i64 x)) (l.set k ⟨d.ln,d.left,x⟩):=by
 intro i d' hd'
 rw [List.getElem?_set] at hd'
 split at hd'
 ·rename_i e
  subst e
  split at hd'
  ·cases hd'
   obtain ⟨b1,p1,n1,c1,b2,p2,n2,c2,b3,p3,n3,c3,h1,h2⟩:=h k d hd
   refine ⟨b1,p1,n1,c1,b2,p2,n2,c2,b3,p3,n3,c3,fun j v hv=>?_,h2⟩
   rw [List.getElem?_set]
   by_cases hj:j=7
   ·subst hj
    have:=h1 7 _ rfl
    have hlt:k * 8 + 7 < vs.length:=by
     rcases Nat.lt_or_ge (k * 8 + 7) vs.length with h | h
     ·exact h
     ·rw [List.getElem?_eq_none h] at this; cases this
    rw [if_pos rfl,if_pos hlt]
    exact hv
   ·rw [if_neg (by omega)]
    refine h1 j v ?_
    match j,hj,hv with
    | 0,_,hv=>exact hv
    | 1,_,hv=>exact hv
    | 2,_,hv=>exact hv
    | 3,_,hv=>exact hv
    | 4,_,hv=>exact hv
    | 5,_,hv=>exact hv
    | 6,_,hv=>exact hv
    | 7,hj,_=>exact absurd rfl hj
    | n + 8,_,hv=>exact hv
  ·cases hd'
 ·rename_i e
  obtain ⟨b1,p1,n1,c1,b2,p2,n2,c2,b3,p3,n3,c3,h1,h2⟩:=h i d' hd'
  refine ⟨b1,p1,n1,c1,b2,p2,n2,c2,b3,p3,n3,c3,fun j v hv=>?_,h2⟩
  have hj:j < 8:=by
   rcases Nat.lt_or_ge j 8 with hj | hj
   ·exact hj
   ·rw [List.getElem?_eq_none (by simpa using hj)] at hv; cases hv
  rw [List.getElem?_set_ne (by omega)]
  exact h1 j v hv
/-- The two numbers of a node are put in. -/
theorem NR.kids {V:View} {vs:List Value} {l r:List Nd} {ln:L3} {u v x y:Int} (h:NR V vs (l++⟨ln,u,v⟩ :: r)):NR V ((vs.set (l.length * 8 + 6) (.int .i64 x)).set (l.length * 8 + 7) (.int .i64 y)) (l++⟨ln,x,y⟩ :: r):=by
 have e1:(l++(⟨ln,u,v⟩:Nd) :: r)[l.length]?=some ⟨ln,u,v⟩:=by simp
 have h1:=h.set6 e1 (x:=x)
 have e2:(l++(⟨ln,u,v⟩:Nd) :: r).set l.length ⟨ln,x,v⟩=l++⟨ln,x,v⟩ :: r:=by simp
 rw [e2] at h1
 have e3:(l++(⟨ln,x,v⟩:Nd) :: r)[l.length]?=some ⟨ln,x,v⟩:=by simp
 have h2:=h1.set7 e3 (x:=y)
 have e4:(l++(⟨ln,x,v⟩:Nd) :: r).set l.length ⟨ln,x,y⟩=l++⟨ln,x,y⟩ :: r:=by simp
 rw [e4] at h2
 exact h2
theorem NR.take {V:View} {vs:List Value} {l:List Nd} (h:NR V vs l):NR V (vs.take (l.length * 8)) l:=by
 intro i d hd
 obtain ⟨b1,p1,n1,c1,b2,p2,n2,c2,b3,p3,n3,c3,h1,h2⟩:=h i d hd
 refine ⟨b1,p1,n1,c1,b2,p2,n2,c2,b3,p3,n3,c3,fun j v hv=>?_,h2⟩
 have hj:j < 8:=by
  rcases Nat.lt_or_ge j 8 with hj | hj
  ·exact hj
  ·rw [List.getElem?_eq_none (by simpa using hj)] at hv; cases hv
 have hi:i < l.length:=by
  rcases Nat.lt_or_ge i l.length with h | h
  ·exact h
  ·rw [List.getElem?_eq_none h] at hd; cases hd
 rw [List.getElem?_take,if_pos (by omega)]
 exact h1 j v hv
/-- A moved row that is seen now. -/
theorem NS.ofRow {V:View} {b c:Nat} {vm:List Value} {l:List Nd} {ty:TypeId} (hb:vm≠[]->V.blk b (.cells vm.toArray ty (0,0))) (hc:l.length<=c) (hr:NR V vm l):NS V (mA b c) l.length c l:=by
 refine ⟨rfl,hc,⟨_,?_,hr.take⟩,?_⟩
 ·intro i v hv
  rw [List.getElem?_take] at hv
  split at hv
  ·rename_i hi
   have hne:vm≠[]:=fun e=>by rw [e] at hv; simp at hv
   refine ⟨⟨b,0,none⟩,by unfold mA; rw [if_neg (by omega)],?_⟩
   rw [add_zero']
   exact blk_at (hb hne) hv
  ·cases hv
 ·intro e
  unfold mA at e
  split at e
  ·assumption
  ·cases e
end Go.Proofs.Tryz
/- Contracts: Size, Limited, Same of package bsp. -/
namespace Go.Proofs.Tryz
open Go.Eng Go.Big
/-- The stack holds trees. -/
def Stk (V:View) (vs:List Value) (ts:List Tr):Prop:=∀(i:Nat) (t:Tr),ts[i]?=some t->∃p,vs[i]?=some (.pointer p)/\RT V p t
theorem Stk.le {V V':View} {vs:List Value} {ts:List Tr} (h:Stk V vs ts) (l:V.Le V'):Stk V' vs ts:=fun i t ht=>by
 obtain ⟨p,h1,h2⟩:=h i t ht
 exact ⟨p,h1,h2.le l⟩
/-- A tree of package api. -/
def AT (V:View) (v:Value) (root:Int) (l:List Nd):Prop:=∃q n c,v=.agg #[.int .i64 root,.slice q n c]/\NS V q n c l
theorem AT.le {V V':View} {v:Value} {root:Int} {l:List Nd} (h:AT V v root l) (hl:V.Le V'):AT V' v root l:=by
 obtain ⟨q,n,c,e,h⟩:=h; exact ⟨q,n,c,e,h.le hl⟩
theorem AT.zero {V:View}:AT V (.agg #[.int .i64 0,.slice none 0 0]) 0 []:=⟨_,_,_,rfl,NS.nil⟩
end Go.Proofs.Tryz
/- By program: the conditions of the functions, from their loaded code. -/
namespace Go.Proofs.Tryz
open Go.Eng
set_option maxRecDepth 100000
end Go.Proofs.Tryz
/- Contracts of package tree. -/
namespace Go.Proofs.Tryz
open Go.Eng Go.Big
theorem c_bsp_Of' {V:View} {l:List Nd} (hb:∀x ∈ l,Bd x.ln) {v:Value} {root:Int} (h:AT V v root l) :
  Acts prog 73 #[v] V fun r V'=>∃q,r=.tuple #[.pointer q,.bool (ofT l root).isSome]/\∀t,ofT l root=some t->RT V' q t:=by
 obtain ⟨p,n,c,rfl,h⟩:=h
 refine (c_bsp_Of hb root h).mono ?_
 rintro r V' _ ⟨h1,h2⟩
 cases e:ofT l root with
 | none=>obtain ⟨q,rfl⟩:=h1 e; exact ⟨q,rfl,fun t ht=>by cases ht⟩
 | some t=>obtain ⟨q,rfl,hq⟩:=h2 t e; exact ⟨q,rfl,fun t' ht=>by cases ht; exact hq⟩
end Go.Proofs.Tryz
/- Contracts of the reference 04: Through. -/
namespace Go.Proofs.Tryz
open Go.Eng Go.Big
theorem RQ.ofNat {V:View} {p:OA} {n c x:Nat} (h:RN V p n c x) {b:Bool} (hb:b=decide ((x:Int) < 0)):RQ V (.agg #[.bool b,.slice p n c,.slice none 0 0]) ((x:Int):Rat):=
 rq_of (z:=(x:Int)) (d:=1) rfl rfl h RD.nil hb
theorem RQ.int {V:View} {q:Rat} {b:Bool} {p:OA} {n c:Nat} {p':OA} {n' c':Nat} (h:RQ V (.agg #[.bool b,.slice p n c,.slice p' n' c']) q):RI V (.agg #[.bool b,.slice p n c]) q.num:=by
 obtain ⟨p1,n1,c1,p2,n2,c2,e,h1,h2⟩:=h
 cases e
 exact ⟨_,_,_,rfl,h1⟩
theorem RQ.den {V:View} {q:Rat} {b:Bool} {p:OA} {n c:Nat} {p':OA} {n' c':Nat} (h:RQ V (.agg #[.bool b,.slice p n c,.slice p' n' c']) q):RD V p' n' c' (dend q.den):=by
 obtain ⟨p1,n1,c1,p2,n2,c2,e,h1,h2⟩:=h
 cases e
 exact h2
/-- The coefficients that Through hands to MakeL. -/
def thr (px py qx qy:Rat):Rat × Rat × Rat:=
 let a:=-(qy - py); let b:=qx - px; let c:=-(a * px + b * py)
 let f:Rat:=(((a.den * b.den * c.den:Nat):Int):Rat)
 (a * f,b * f,c * f)
theorem sz_nat {n k:Nat} (h:n < 2 ^ k) (hk:0 < k):Sz k (((n:Nat):Int):Rat):=by
 refine ⟨?_,?_⟩
 ·show ((n:Nat):Int).natAbs < _
  simpa using h
 ·show 1 < 2 ^ k
  exact Nat.one_lt_two_pow (by omega)
theorem c_ref04_Through {V:View} {u w:Value} {px py qx qy:Rat} (hp:RP V u px py) (hq:RP V w qx qy) {k:Nat} (s1:Sz k px) (s2:Sz k py) (s3:Sz k qx) (s4:Sz k qy) (hk1:1<=k) (hk:64 * k + 64 < 274877906944) :
  Acts prog 78 #[u,w] V fun r V'=>((thr px py qx qy).1.num=0/\(thr px py qx qy).2.1.num=0->∃l,r=.tuple #[l,.bool false]/\RL V' l 0 0 0) /\
   (¬ ((thr px py qx qy).1.num=0/\(thr px py qx qy).2.1.num=0)->∃l,r=.tuple #[l,.bool true] /\
    RL V' l ((thr px py qx qy).1.num / (gcd3 (thr px py qx qy).1.num (thr px py qx qy).2.1.num (thr px py qx qy).2.2.num:Int)) ((thr px py qx qy).2.1.num / (gcd3 (thr px py qx qy).1.num (thr px py qx qy).2.1.num (thr px py qx qy).2.2.num:Int)) ((thr px py qx qy).2.2.num / (gcd3 (thr px py qx qy).1.num (thr px py qx qy).2.1.num (thr px py qx qy).2.2.num:Int))):=by
 have hp0:=hp
 have hq0:=hq
 obtain ⟨p1,n1,c1,p2,n2,c2,p3,n3,c3,p4,n4,c4,rfl,hp1,hp2⟩:=hp
 obtain ⟨q1,m1,e1,q2,m2,e2,q3,m3,e3,q4,m4,e4,rfl,-,-⟩:=hq
 refine vc_ref04_Through _ p1 n1 c1 p2 n2 c2 _ p3 n3 c3 p4 n4 c4 _ q1 m1 e1 q2 m2 e2 _ q3 m3 e3 q4 m4 e4 V _ fun V1 l1=>(c_ref04_Sub (hq0.le l1) (hp0.le l1) s3 s4 s1 s2 hk1 (by omega)).mono ?_
 rintro r V2 l2 ⟨a1,a2,a3,a4,a5,a6,a7,a8,a9,a10,a11,a12,rfl,hb,hd⟩
 have tb:Sz (k + k + 1) (qx - px):=s3.sub s1
 have td:Sz (k + k + 1) (qy - py):=s4.sub s2
 have l02:=l1.trans l2
 refine ⟨_,_,_,_,_,_,_,_,_,_,_,_,_,_,rfl,fun V3 l3=>(c_num_Opp (qy - py) (by obtain ⟨_,_,_,_,_,_,e,h1,h2⟩:=hd.le l3; cases e; exact h1) (RQ.den (hd.le l3))).mono ?_⟩
 rintro r V4 l4 ha
 obtain ⟨b1,b2,b3,b4,b5,b6,rfl⟩:=ha.shape
 have ta:=td.neg
 have hthr:thr px py qx qy=(-(qy - py) * (((((-(qy - py)).den * (qx - px).den * (-(-(qy - py) * px + (qx - px) * py)).den:Nat):Int):Rat)),(qx - px) * (((((-(qy - py)).den * (qx - px).den * (-(-(qy - py) * px + (qx - px) * py)).den:Nat):Int):Rat)),(-(-(qy - py) * px + (qx - px) * py)) * (((((-(qy - py)).den * (qx - px).den * (-(-(qy - py) * px + (qx - px) * py)).den:Nat):Int):Rat))):=rfl
 rw [hthr]
 generalize -(qy - py)=A at *
 generalize qx - px=B at *
 replace hb:=hb.le (l3.trans l4)
 replace hp1:=hp1.le (l02.trans (l3.trans l4))
 replace hp2:=hp2.le (l02.trans (l3.trans l4))
 refine ⟨_,_,_,_,_,_,_,rfl,fun V5 l5=>(c_num_Times (ha.le l5) (hp1.le l5) ta s1 (by omega)).mono ?_⟩
 rintro r V6 l6 g6
 obtain ⟨d1,d2,d3,d4,d5,d6,rfl⟩:=g6.shape
 refine ⟨_,_,_,_,_,_,_,rfl,fun V7 l7=>(c_num_Times (hb.le (l5.trans (l6.trans l7))) (hp2.le (l5.trans (l6.trans l7))) tb s2 (by omega)).mono ?_⟩
 rintro r V8 l8 g8
 obtain ⟨f1,f2,f3,f4,f5,f6,rfl⟩:=g8.shape
 refine ⟨_,_,_,_,_,_,_,rfl,fun V9 l9=>(c_num_Plus (g6.le (l7.trans (l8.trans l9))) (g8.le l9) (ta.mul s1) (tb.mul s2) (by omega)).mono ?_⟩
 rintro r V10 l10 g10
 have tc:=((ta.mul s1).add (tb.mul s2)).neg
 obtain ⟨i1,i2,i3,i4,i5,i6,rfl⟩:=g10.shape
 refine ⟨_,_,_,_,_,_,_,rfl,fun V11 l11=>(c_num_Opp (A * px + B * py) (by obtain ⟨_,_,_,_,_,_,e,h1,h2⟩:=g10.le l11; cases e; exact h1) (RQ.den (g10.le l11))).mono ?_⟩
 rintro r V12 l12 hc
 generalize -(A * px + B * py)=C at *
 obtain ⟨j1,j2,j3,j4,j5,j6,rfl⟩:=hc.shape
 have l012:=l5.trans (l6.trans (l7.trans (l8.trans (l9.trans (l10.trans (l11.trans l12))))))
 replace ha:=ha.le l012
 replace hb:=hb.le l012
 refine ⟨_,_,_,_,_,_,_,rfl,fun V13 l13=>(c_num_Den A _ (RQ.den (ha.le l13))).mono ?_⟩
 rintro r V14 l14 ⟨k1,k2,k3,rfl,g14⟩
 refine ⟨_,_,_,rfl,fun V15 l15=>(c_num_Den B _ (RQ.den (hb.le (l13.trans (l14.trans l15))))).mono ?_⟩
 rintro r V16 l16 ⟨k4,k5,k6,rfl,g16⟩
 obtain ⟨-,da,-⟩:=den_one_len ta
 obtain ⟨-,db,-⟩:=den_one_len tb
 obtain ⟨-,dc,-⟩:=den_one_len tc
 refine ⟨_,_,_,rfl,fun V17 l17=>(c_num_Product (g14.le (l15.trans (l16.trans l17))) (g16.le l17) (by omega)).mono ?_⟩
 rintro r V18 l18 ⟨k7,k8,k9,rfl,g18⟩
 rw [val_digs,val_digs] at g18
 refine ⟨_,_,_,rfl,fun V19 l19=>(c_num_Den C _ (RQ.den (hc.le (l13.trans (l14.trans (l15.trans (l16.trans (l17.trans (l18.trans l19))))))))).mono ?_⟩
 rintro r V20 l20 ⟨k10,k11,k12,rfl,g20⟩
 have dab:=digs_mul_len (a:=A.den) (b:=B.den)
 refine ⟨_,_,_,rfl,fun V21 l21=>(c_num_Product (g18.le (l19.trans (l20.trans l21))) (g20.le l21) (by omega)).mono ?_⟩
 rintro r V22 l22 ⟨k13,k14,k15,rfl,g22⟩
 rw [val_digs,val_digs] at g22
 have tf:Sz (k + k + 1 + (k + k + 1) + (k + k + 1 + k + 1 + (k + k + 1 + k + 1) + 1)) (((A.den * B.den * C.den:Nat):Int):Rat):=sz_nat (pow_mul_lt (pow_mul_lt ta.2 tb.2) tc.2) (by omega)
 generalize A.den * B.den * C.den=M at *
 refine ⟨_,_,_,rfl,fun V23 l23=>(c_num_pos (g22.le l23)).mono ?_⟩
 rintro r V24 l24 ⟨k16,k17,k18,rfl,g24⟩
 have hf:=RQ.ofNat g24 rfl
 have l024:=l13.trans (l14.trans (l15.trans (l16.trans (l17.trans (l18.trans (l19.trans (l20.trans (l21.trans (l22.trans (l23.trans l24))))))))))
 refine ⟨_,_,_,_,rfl,fun V25 l25=>(c_num_Times (ha.le (l024.trans l25)) (hf.le l25) ta tf (by omega)).mono ?_⟩
 rintro r V26 l26 g26
 obtain ⟨o1,o2,o3,o4,o5,o6,rfl⟩:=g26.shape
 refine ⟨_,_,_,_,_,_,_,rfl,fun V27 l27=>(c_num_Times (hb.le (l024.trans (l25.trans (l26.trans l27)))) (hf.le (l25.trans (l26.trans l27))) tb tf (by omega)).mono ?_⟩
 rintro r V28 l28 g28
 obtain ⟨o7,o8,o9,o10,o11,o12,rfl⟩:=g28.shape
 refine ⟨_,_,_,_,_,_,_,rfl,fun V29 l29=>(c_num_Times (hc.le (l024.trans (l25.trans (l26.trans (l27.trans (l28.trans l29)))))) (hf.le (l25.trans (l26.trans (l27.trans (l28.trans l29))))) tc tf (by omega)).mono ?_⟩
 rintro r V30 l30 g30
 obtain ⟨t1,t2,t3,t4,t5,t6,rfl⟩:=g30.shape
 refine ⟨_,_,_,_,_,_,_,rfl,fun V31 l31=>(c_ref04_MakeL (RQ.int (g26.le (l27.trans (l28.trans (l29.trans (l30.trans l31)))))) (RQ.int (g28.le (l29.trans (l30.trans l31)))) (RQ.int (g30.le l31)) (Nat.le_trans (den_one_len (ta.mul tf)).1 (by omega)) (Nat.le_trans (den_one_len (tb.mul tf)).1 (by omega)) (Nat.le_trans (den_one_len (tc.mul tf)).1 (by omega))).mono ?_⟩
 rintro r V32 l32 ⟨z1,z2⟩
 by_cases hz:(A * ((M:Int):Rat)).num=0/\(B * ((M:Int):Rat)).num=0
 ·obtain ⟨l,rfl,y1,y2,y3,y4,y5,y6,y7,y8,y9,rfl,w1,w2,w3⟩:=z1 hz
  exact ⟨_,_,_,_,_,_,_,_,_,_,_,_,_,rfl,fun V33 l33=>⟨fun _=>⟨_,rfl,_,_,_,_,_,_,_,_,_,rfl,w1.le l33,w2.le l33,w3.le l33⟩,fun h=>absurd hz h⟩⟩
 ·obtain ⟨l,rfl,y1,y2,y3,y4,y5,y6,y7,y8,y9,rfl,w1,w2,w3⟩:=z2 hz
  exact ⟨_,_,_,_,_,_,_,_,_,_,_,_,_,rfl,fun V33 l33=>⟨fun h=>absurd h hz,fun _=>⟨_,rfl,_,_,_,_,_,_,_,_,_,rfl,w1.le l33,w2.le l33,w3.le l33⟩⟩⟩
end Go.Proofs.Tryz
/- By program: the conditions of the functions, from their loaded code. -/
namespace Go.Proofs.Tryz
open Go.Eng
open Go.Value renaming int→I,pointer→P,slice→S,agg→A,bool→B,tuple→T
open Go.IntKind renaming i64→J,u64→U,u32→W
set_option maxRecDepth 100000
theorem vc_scene_New (d:OA) (a b:Nat) (V:View) (R:VR) (h:(0<=(minI (a:Int) (400))/\(minI (a:Int) (400))<=(b:Int))/\(∀c,V.Le c->∀e:Nat,(c.blk e (.cells #[S d ((minI (a:Int) (400)).toNat) b,I J 0] 133 (0,0)))->R (P (some ⟨e,0,none⟩)) c)):
 Acts prog 15 #[S d a b] V R:=
 fd (LF:=LF0) (RF:=[1000015]) [] [] func15 h
theorem vc_scene_Tape_Next (e:Nat) (f:OA) (b g:Nat) (a d:Int) (V:View) (R:VR) (hw100000:V.w.heap[e]?=some (.cells #[S f b g,I J a] 133 (0,0))) (hx100000:V.X e) (h:(((decide (a ≥ (b:Int)))=true->(∀k,V.Le k->k.w.heap[e]?=some (.cells #[S f b g,I J a] 133 (0,0))->R (I J 0) k))/\((decide (a ≥ (b:Int)))=false->(f.isSome=true)/\(0<=a/\a < (b:Int))/\(∃i,(∃n,addrAdd f (a.toNat * 1)=some n/\V.at n (I J i))/\(d≠0)/\(((decide ((i.tmod d) < (0:Int)))=true->(∀l,V.Le l->l.w.heap[e]?=some (.cells #[S f b g,I J (J.wrap (a + (1:Int)))] 133 (0,0))->R (I J (J.wrap ((i.tmod d) + d))) l))/\((decide ((i.tmod d) < (0:Int)))=false->(∀m,V.Le m->m.w.heap[e]?=some (.cells #[S f b g,I J (J.wrap (a + (1:Int)))] 133 (0,0))->R (I J (i.tmod d)) m))))))):
 Acts prog 25 #[P (some ⟨e,0,none⟩),I J d] V R:=
 fn_does (LF:=LF0) (RF:=[1000015]) (β0:=(upd1 (fun _=>0) 100000 e)) tab_ok mixed [] [] func25 (by kernel_rfl) [(0,.c (.ptr 100000 0)),(1,.c (.v (I J d)))] [(100000,⟨.lit [.v (S f b g),.v (I J a)],133⟩)] (by kernel_rfl) ⟨⟨hw100000,hx100000⟩,trivial,trivial⟩ h (by kernel_rfl)
theorem vc_scene_Tape_P (a:Nat) (g:OA) (i k:Nat) (l:Int) (V:View) (R:VR) (hw100000:V.w.heap[a]?=some (.cells #[S g i k,I J l] 133 (0,0))) (hx100000:V.X a) (h:(∀e,V.Le e->∀b:Nat,(e.w.heap[b]?=some (.cells #[S g i k,I J l] 133 (0,0)))->(e.H b)->Acts prog 25 #[P (some ⟨b,0,none⟩),I J 9] (e.lend [b]) fun b6 n=>∃o,b6=I J o/\∃p q r,∃s,n.w.heap[b]?=some (.cells #[S p q r,I J s] 133 (0,0))/\(∀f,n.shut.Le f->∀d:Nat,(f.w.heap[d]?=some (.cells #[S p q r,I J s] 133 (0,0)))->(f.H d)->Acts prog 25 #[P (some ⟨d,0,none⟩),I J 9] (f.lend [d]) fun b7 t=>∃u,b7=I J u/\∃x y z,∃a0,t.w.heap[d]?=some (.cells #[S x y z,I J a0] 133 (0,0))/\(∀a1,t.shut.Le a1->Acts prog 79 #[I J (J.wrap (o - (4:Int))),I J (J.wrap (u - (4:Int)))] a1 fun b8 b9=>∃a2,∃a3 a4 a5,∃a6 a7 a8,∃a9,∃b0 b1 b2,∃b3 b4 b5,b8=A #[B a2,S a3 a4 a5,S a6 a7 a8,B a9,S b0 b1 b2,S b3 b4 b5]/\(∀m,b9.Le m->m.w.heap[a]?=some (.cells #[S x y z,I J a0] 133 (0,0))->R (A #[B a2,S a3 a4 a5,S a6 a7 a8,B a9,S b0 b1 b2,S b3 b4 b5]) m))))):
 Acts prog 23 #[P (some ⟨a,0,none⟩)] V R:=
 fn_does (LF:=LF0) (RF:=[1000015]) (β0:=(upd1 (fun _=>0) 100000 a)) tab_ok mixed [] [] func23 (by kernel_rfl) [(0,.c (.ptr 100000 0))] [(100000,⟨.lit [.v (S g i k),.v (I J l)],133⟩)] (by kernel_rfl) ⟨⟨hw100000,hx100000⟩,trivial,trivial⟩ h (by kernel_rfl)
theorem vc_scene_Tape_V (a:Nat) (e:OA) (f g:Nat) (i:Int) (V:View) (R:VR) (hw100000:V.w.heap[a]?=some (.cells #[S e f g,I J i] 133 (0,0))) (hx100000:V.X a) (h:(∀d,V.Le d->∀b:Nat,(d.w.heap[b]?=some (.cells #[S e f g,I J i] 133 (0,0)))->(d.H b)->Acts prog 23 #[P (some ⟨b,0,none⟩)] (d.lend [b]) fun c4 a7=>∃k,∃l m n,∃o p q,∃r,∃s t u,∃x y z,c4=A #[B k,S l m n,S o p q,B r,S s t u,S x y z]/\∃a0 a1 a2,∃a3,a7.w.heap[b]?=some (.cells #[S a0 a1 a2,I J a3] 133 (0,0))/\(∀a8,a7.shut.Le a8->Acts prog 171 #[A #[B k,S l m n,S o p q,B r,S s t u,S x y z],A #[B false,S none 0 0,S none 0 0,B false,S none 0 0,S none 0 0]] a8 fun c5 a9=>∃a4,c5=B a4/\((a4=true->(Ca a9 79 #[I J 1,I J 0] fun c6 c7=>∃b0,∃b1 b2 b3,∃b4 b5 b6,∃b7,∃b8 b9 c0,∃c1 c2 c3,c6=A #[B b0,S b1 b2 b3,S b4 b5 b6,B b7,S b8 b9 c0,S c1 c2 c3]/\(∀a5,c7.Le a5->a5.w.heap[a]?=some (.cells #[S a0 a1 a2,I J a3] 133 (0,0))->R (A #[B b0,S b1 b2 b3,S b4 b5 b6,B b7,S b8 b9 c0,S c1 c2 c3]) a5)))/\(a4=false->(∀a6,a9.Le a6->a6.w.heap[a]?=some (.cells #[S a0 a1 a2,I J a3] 133 (0,0))->R (A #[B k,S l m n,S o p q,B r,S s t u,S x y z]) a6)))))):
 Acts prog 98 #[P (some ⟨a,0,none⟩)] V R:=
 fn_does (LF:=LF0) (RF:=[1000015]) (β0:=(upd1 (fun _=>0) 100000 a)) tab_ok mixed [] [] func98 (by kernel_rfl) [(0,.c (.ptr 100000 0))] [(100000,⟨.lit [.v (S e f g),.v (I J i)],133⟩)] (by kernel_rfl) ⟨⟨hw100000,hx100000⟩,trivial,trivial⟩ h (by kernel_rfl)
theorem vc_scene_Tape_L (a:Nat) (g:OA) (i k:Nat) (l:Int) (V:View) (R:VR) (hw100000:V.w.heap[a]?=some (.cells #[S g i k,I J l] 133 (0,0))) (hx100000:V.X a) (h:(∀e,V.Le e->∀b:Nat,(e.w.heap[b]?=some (.cells #[S g i k,I J l] 133 (0,0)))->(e.H b)->Acts prog 23 #[P (some ⟨b,0,none⟩)] (e.lend [b]) fun g2 a3=>∃m,∃n o p,∃q r s,∃t,∃u x y,∃z a0 a1,g2=A #[B m,S n o p,S q r s,B t,S u x y,S z a0 a1]/\∃a4 a5 a6,∃a7,a3.w.heap[b]?=some (.cells #[S a4 a5 a6,I J a7] 133 (0,0))/\(∀a8,a3.shut.Le a8->Acts prog 92 #[I J 1] a8 fun g3 g4=>∃a9,∃b0 b1 b2,∃b3 b4 b5,g3=A #[B a9,S b0 b1 b2,S b3 b4 b5]/\(∀f,g4.Le f->∀d:Nat,(f.w.heap[d]?=some (.cells #[S a4 a5 a6,I J a7] 133 (0,0)))->(f.H d)->Acts prog 98 #[P (some ⟨d,0,none⟩)] (f.lend [d]) fun g5 b6=>∃b7,∃b8 b9 c0,∃c1 c2 c3,∃c4,∃c5 c6 c7,∃c8 c9 d0,g5=A #[B b7,S b8 b9 c0,S c1 c2 c3,B c4,S c5 c6 c7,S c8 c9 d0]/\∃d1 d2 d3,∃d4,b6.w.heap[d]?=some (.cells #[S d1 d2 d3,I J d4] 133 (0,0))/\(∀d5,b6.shut.Le d5->Acts prog 90 #[A #[B m,S n o p,S q r s,B t,S u x y,S z a0 a1],A #[B a9,S b0 b1 b2,S b3 b4 b5],A #[B b7,S b8 b9 c0,S c1 c2 c3,B c4,S c5 c6 c7,S c8 c9 d0]] d5 fun g6 g7=>∃d6,∃d7 d8 d9,∃e0 e1 e2,∃e3,∃e4 e5 e6,∃e7 e8 e9,g6=A #[B d6,S d7 d8 d9,S e0 e1 e2,B e3,S e4 e5 e6,S e7 e8 e9]/\(Ca g7 78 #[A #[B m,S n o p,S q r s,B t,S u x y,S z a0 a1],A #[B d6,S d7 d8 d9,S e0 e1 e2,B e3,S e4 e5 e6,S e7 e8 e9]] fun g8 g9=>∃f0,∃f1 f2 f3,∃f4,∃f5 f6 f7,∃f8,∃f9 g0 g1,∃i0,g8=T #[A #[B f0,S f1 f2 f3,B f4,S f5 f6 f7,B f8,S f9 g0 g1],B i0]/\(∀a2,g9.Le a2->a2.w.heap[a]?=some (.cells #[S d1 d2 d3,I J d4] 133 (0,0))->R (A #[B f0,S f1 f2 f3,B f4,S f5 f6 f7,B f8,S f9 g0 g1]) a2))))))):
 Acts prog 34 #[P (some ⟨a,0,none⟩)] V R:=
 fn_does (LF:=LF0) (RF:=[1000015]) (β0:=(upd1 (fun _=>0) 100000 a)) tab_ok mixed [] [] func34 (by kernel_rfl) [(0,.c (.ptr 100000 0))] [(100000,⟨.lit [.v (S g i k),.v (I J l)],133⟩)] (by kernel_rfl) ⟨⟨hw100000,hx100000⟩,trivial,trivial⟩ h (by kernel_rfl)
theorem vc_scene_Tape_Tree (a:Nat) (l:OA) (m n:Nat) (o b:Int) (V:View) (R:VR) (hw100000:V.w.heap[a]?=some (.cells #[S l m n,I J o] 133 (0,0))) (hx100000:V.X a) (h:(((b == (0:Int))=true->(∀p,V.Le p->∀d:Nat,(p.w.heap[d]?=some (.cells #[S l m n,I J o] 133 (0,0)))->(p.H d)->Acts prog 25 #[P (some ⟨d,0,none⟩),I J 2] (p.lend [d]) fun f2 a6=>∃a7,f2=I J a7/\∃a8 a9 b0,∃b1,a6.w.heap[d]?=some (.cells #[S a8 a9 b0,I J b1] 133 (0,0))/\(∀b2,a6.shut.Le b2->Acts prog 70 #[B (a7 == (1:Int))] b2 fun f3 f4=>∃b3,f3=P b3/\(∀y,f4.Le y->y.w.heap[a]?=some (.cells #[S a8 a9 b0,I J b1] 133 (0,0))->R (P b3) y))))/\((b == (0:Int))=false->(∀q,V.Le q->∀e:Nat,(q.w.heap[e]?=some (.cells #[S l m n,I J o] 133 (0,0)))->(q.H e)->Acts prog 25 #[P (some ⟨e,0,none⟩),I J 4] (q.lend [e]) fun f5 z=>∃a0,f5=I J a0/\∃a1 a2 a3,∃a4,z.w.heap[e]?=some (.cells #[S a1 a2 a3,I J a4] 133 (0,0))/\(((a0 == (0:Int))=true->(∀r,z.shut.Le r->∀f:Nat,(r.w.heap[f]?=some (.cells #[S a1 a2 a3,I J a4] 133 (0,0)))->(r.H f)->Acts prog 25 #[P (some ⟨f,0,none⟩),I J 2] (r.lend [f]) fun f6 b4=>∃b5,f6=I J b5/\∃b6 b7 b8,∃b9,b4.w.heap[f]?=some (.cells #[S b6 b7 b8,I J b9] 133 (0,0))/\(∀c0,b4.shut.Le c0->Acts prog 70 #[B (b5 == (1:Int))] c0 fun f7 f8=>∃c1,f7=P c1/\(∀a5,f8.Le a5->a5.w.heap[a]?=some (.cells #[S b6 b7 b8,I J b9] 133 (0,0))->R (P c1) a5))))/\((a0 == (0:Int))=false->(∀s,z.shut.Le s->∀g:Nat,(s.w.heap[g]?=some (.cells #[S a1 a2 a3,I J a4] 133 (0,0)))->(s.H g)->Acts prog 34 #[P (some ⟨g,0,none⟩)] (s.lend [g]) fun f9 c2=>∃c3,∃c4 c5 c6,∃c7,∃c8 c9 d0,∃d1,∃d2 d3 d4,f9=A #[B c3,S c4 c5 c6,B c7,S c8 c9 d0,B d1,S d2 d3 d4]/\∃d5 d6 d7,∃d8,c2.w.heap[g]?=some (.cells #[S d5 d6 d7,I J d8] 133 (0,0))/\(∀t,c2.shut.Le t->∀i:Nat,(t.w.heap[i]?=some (.cells #[S d5 d6 d7,I J d8] 133 (0,0)))->(t.H i)->Acts prog 16 #[P (some ⟨i,0,none⟩),I J (J.wrap (b - (1:Int)))] (t.lend [i]) fun g0 d9=>∃e0,g0=P e0/\∃e1 e2 e3,∃e4,d9.w.heap[i]?=some (.cells #[S e1 e2 e3,I J e4] 133 (0,0))/\(∀u,d9.shut.Le u->∀k:Nat,(u.w.heap[k]?=some (.cells #[S e1 e2 e3,I J e4] 133 (0,0)))->(u.H k)->Acts prog 16 #[P (some ⟨k,0,none⟩),I J (J.wrap (b - (1:Int)))] (u.lend [k]) fun g1 e5=>∃e6,g1=P e6/\∃e7 e8 e9,∃f0,e5.w.heap[k]?=some (.cells #[S e7 e8 e9,I J f0] 133 (0,0))/\(∀x,e5.shut.Le x->∀f1:Nat,x.w.heap[a]?=some (.cells #[S e7 e8 e9,I J f0] 133 (0,0))->(x.blk f1 (.cells #[B false,B false,B c3,S c4 c5 c6,B c7,S c8 c9 d0,B d1,S d2 d3 d4,P e0,P e6] 74 (0,0)))->R (P (some ⟨f1,0,none⟩)) x)))))))))):
 Acts prog 16 #[P (some ⟨a,0,none⟩),I J b] V R:=
 fn_does (LF:=LF0) (RF:=[1000015]) (β0:=(upd1 (fun _=>0) 100000 a)) tab_ok mixed [] [] func16 (by kernel_rfl) [(0,.c (.ptr 100000 0)),(1,.c (.v (I J b)))] [(100000,⟨.lit [.v (S l m n),.v (I J o)],133⟩)] (by kernel_rfl) ⟨⟨hw100000,hx100000⟩,trivial,trivial⟩ h (by kernel_rfl)
end Go.Proofs.Tryz
/- The scene's tape: Next, P, V, L, Tree; lines and trees that it makes. -/
namespace Go.Proofs.Tryz
open Go.Eng Go.Big
/-! plain laws: the line through two points of the grid -/
theorem thr_int (x y u w:Int):thr (x:Rat) (y:Rat) ((x:Rat) + ((1:Int):Rat) * (u:Rat)) ((y:Rat) + ((1:Int):Rat) * (w:Rat))=(((-w:Int):Rat),((u:Int):Rat),((w * x - u * y:Int):Rat)):=by
 have e1:(x:Rat) + ((1:Int):Rat) * (u:Rat)=((x + u:Int):Rat):=by rw [← Rat.intCast_mul,← Rat.intCast_add,Int.one_mul]
 have e2:(y:Rat) + ((1:Int):Rat) * (w:Rat)=((y + w:Int):Rat):=by rw [← Rat.intCast_mul,← Rat.intCast_add,Int.one_mul]
 rw [e1,e2]
 have ha:-(((y + w:Int):Rat) - (y:Rat))=((-w:Int):Rat):=by rw [← Rat.intCast_sub,← Rat.intCast_neg]; congr 1; omega
 have hb:((x + u:Int):Rat) - (x:Rat)=((u:Int):Rat):=by rw [← Rat.intCast_sub]; congr 1; omega
 have hc:-(((-w:Int):Rat) * (x:Rat) + ((u:Int):Rat) * (y:Rat))=((w * x - u * y:Int):Rat):=by
  rw [← Rat.intCast_mul,← Rat.intCast_mul,← Rat.intCast_add,← Rat.intCast_neg]; congr 1; rw [Int.neg_mul]; omega
 have hf:(((((-w:Int):Rat).den * ((u:Int):Rat).den * ((w * x - u * y:Int):Rat).den:Nat):Int):Rat)=1:=rfl
 unfold thr
 dsimp only
 rw [ha,hb,hc,hf,Rat.mul_one,Rat.mul_one,Rat.mul_one]
/-- Divided by their common divisor. -/
def lnOf (a b c:Int):L3:=(a / (gcd3 a b c:Int),b / (gcd3 a b c:Int),c / (gcd3 a b c:Int))
def small (z:Int) (k:Nat):Bool:=decide (z.natAbs<=k)
theorem lnOf_fin:∀i:Fin 9,∀j:Fin 9,∀k:Fin 65,(i.1=4/\j.1=4) \/ (okL (lnOf ((i.1:Int) - 4) ((j.1:Int) - 4) ((k.1:Int) - 32)) && small (lnOf ((i.1:Int) - 4) ((j.1:Int) - 4) ((k.1:Int) - 32)).1 32 && small (lnOf ((i.1:Int) - 4) ((j.1:Int) - 4) ((k.1:Int) - 32)).2.1 32 && small (lnOf ((i.1:Int) - 4) ((j.1:Int) - 4) ((k.1:Int) - 32)).2.2 32)=true:=by decide +kernel
theorem bd32 (k:Nat) (hk:6<=k) {z:Int} (h:z.natAbs<=32):z.natAbs < 2 ^ k:=Nat.lt_of_le_of_lt h (Nat.lt_of_lt_of_le (by decide:32 < 2 ^ 6) (Nat.pow_le_pow_right (by decide) hk))
theorem bd32' (k:Nat) (hk:6<=k) {x:L3} (h1:x.1.natAbs<=32) (h2:x.2.1.natAbs<=32) (h3:x.2.2.natAbs<=32):x.1.natAbs < 2 ^ k/\x.2.1.natAbs < 2 ^ k/\x.2.2.natAbs < 2 ^ k:=⟨bd32 k hk h1,bd32 k hk h2,bd32 k hk h3⟩
theorem lnOf_ok {a b c:Int} (h1:-4<=a/\a<=4) (h2:-4<=b/\b<=4) (h3:-32<=c/\c<=32) (h:¬ (a=0/\b=0)):okL (lnOf a b c)=true/\Bd (lnOf a b c):=by
 have:=lnOf_fin ⟨(a + 4).toNat,by omega⟩ ⟨(b + 4).toNat,by omega⟩ ⟨(c + 32).toNat,by omega⟩
 dsimp only at this
 rw [show (((a + 4).toNat:Nat):Int) - 4=a from by omega,show (((b + 4).toNat:Nat):Int) - 4=b from by omega,show (((c + 32).toNat:Nat):Int) - 32=c from by omega] at this
 rcases this with h' | h'
 ·omega
 ·simp only [Bool.and_eq_true,small,decide_eq_true_eq] at h'
  exact ⟨h'.1.1.1,bd32' 1000 (by decide) h'.1.1.2 h'.1.2 h'.2⟩
theorem mul_bd {x y:Int} (h1:-4<=x/\x<=4) (h2:-4<=y/\y<=4):-16<=x * y/\x * y<=16:=by
 have:(x * y).natAbs<=4 * 4:=by rw [Int.natAbs_mul]; exact Nat.mul_le_mul (by omega) (by omega)
 omega
end Go.Proofs.Tryz
/- Contracts of the scene's tape: Next, P, V, L; trees of the reference in memory: Code, Tree. -/
namespace Go.Proofs.Tryz
open Go.Eng Go.Big
theorem RL_shape' {V:View} {v:Value} {a b c:Int} (h:RL V v a b c):∃(b1:Bool) (p1:OA) (n1 c1:Nat) (b2:Bool) (p2:OA) (n2 c2:Nat) (b3:Bool) (p3:OA) (n3 c3:Nat),v=.agg #[.bool b1,.slice p1 n1 c1,.bool b2,.slice p2 n2 c2,.bool b3,.slice p3 n3 c3]:=by
 obtain ⟨p,n,s,p',n',s',q,m,e,rfl,-⟩:=h
 exact ⟨_,_,_,_,_,_,_,_,_,_,_,_,rfl⟩
/-- Ints that can be read. -/
def Rdl (V:View) (p:OA) (n:Nat):Prop:=∀i,i < n->∃(a:Addr) (x:Int),addrAdd p (i * 1)=some a/\V.at a (.int .i64 x)
theorem Rdl.le {V V':View} {p:OA} {n:Nat} (h:Rdl V p n) (l:V.Le V'):Rdl V' p n:=fun i hi=>by
 obtain ⟨a,x,e,hx⟩:=h i hi; exact ⟨a,x,e,l.at hx⟩
/-- The tape's block. -/
def TpAt (V:View) (tb:Nat) (p:OA) (n c:Nat) (at_:Int):Prop:=V.w.heap[tb]?=some (.cells #[.slice p n c,.int .i64 at_] 133 (0,0))
theorem c_Next {V:View} {tb:Nat} {p:OA} {n c:Nat} {at_:Int} (k:Int) (hr:Rdl V p n) (hn:n<=400) (hw:TpAt V tb p n c at_) (hx:V.X tb) (h0:0<=at_) (hk:0 < k) (hk2:k<=1000) :
  Acts prog 25 #[.pointer (some ⟨tb,0,none⟩),.int .i64 k] V fun r V'=>∃x at',r=.int .i64 x/\0<=x/\x < k/\0<=at'/\TpAt V' tb p n c at':=by
 refine vc_scene_Tape_Next tb p n c at_ k V _ hw hx ⟨fun g V1 l1 e=>⟨0,at_,rfl,by omega,hk,h0,e⟩,fun g=>?_⟩
 have g:at_ < n:=by have:=of_decide_eq_false g; omega
 obtain ⟨i,rfl⟩:∃i:Nat,at_=i:=⟨at_.toNat,by omega⟩
 obtain ⟨a,x,e1,e2⟩:=hr i (by omega)
 have hs:p.isSome=true:=by
  cases p with
  | none=>simp [addrAdd] at e1
  | some a=>rfl
 have m1:(x.tmod k).natAbs < k.natAbs:=by rw [Int.natAbs_tmod]; exact Nat.mod_lt _ (by omega)
 have w1:i64.wrap ((i:Int) + 1)=((i + 1:Nat):Int):=by rw [i64w (by omega)]; omega
 rw [Int.toNat_natCast,w1]
 have w2:i64.wrap (x.tmod k + k)=x.tmod k + k:=i64w (by omega)
 refine ⟨hs,⟨by omega,by omega⟩,x,⟨a,e1,e2⟩,by omega,fun g2 V2 l2 e=>⟨x.tmod k + k,_,by rw [w2],?_,?_,?_,e⟩,fun g2 V3 l3 e=>⟨_,_,rfl,?_,?_,?_,e⟩⟩
 ·omega
 ·have:=of_decide_eq_true g2; omega
 ·omega
 ·have:=of_decide_eq_false g2; omega
 ·omega
 ·omega
theorem c_P {V:View} {tb:Nat} {p:OA} {n c:Nat} {at_:Int} (hr:Rdl V p n) (hn:n<=400) (hw:TpAt V tb p n c at_) (hx:V.X tb) (h0:0<=at_) :
  Acts prog 23 #[.pointer (some ⟨tb,0,none⟩)] V fun r V'=>∃(x y at':Int),RP V' r (x:Rat) (y:Rat)/\(-4<=x/\x<=4)/\(-4<=y/\y<=4)/\0<=at'/\TpAt V' tb p n c at':=by
 refine vc_scene_Tape_P tb p n c at_ V _ hw hx fun V1 l1 bk1 e1 h1=>(c_Next (V:=V1.lend [bk1]) 9 (hr.le fun b o h=>l1 b o h) hn e1 ⟨by simp,h1⟩ h0 (by omega) (by omega)).mono ?_
 rintro r V2 l2 ⟨x,at1,rfl,x0,x1,t1,hw1⟩
 refine ⟨_,rfl,_,_,_,_,hw1,fun V3 l3 bk5 e3 h3=>(c_Next (V:=V3.lend [bk5]) 9 (hr.le fun b o h=>l3 b o (l2 b o (l1 b o h))) hn e3 ⟨by simp,h3⟩ t1 (by omega) (by omega)).mono ?_⟩
 rintro r V4 l4 ⟨y,at2,rfl,y0,y1,t2,hw2⟩
 refine ⟨_,rfl,_,_,_,_,hw2,fun V5 l5=>?_⟩
 rw [i64w (x:=x - 4) (by omega),i64w (x:=y - 4) (by omega)]
 refine (c_ref04_Xy (x - 4) (y - 4) (by omega) (by omega) (by omega) (by omega)).mono ?_
 rintro r V6 l6 hp
 have hp0:=hp
 obtain ⟨p1,n1,c1,p2,n2,c2,p3,n3,c3,p4,n4,c4,rfl,-⟩:=hp
 exact ⟨_,_,_,_,_,_,_,_,_,_,_,_,_,_,rfl,fun V7 l7 e7=>⟨x - 4,y - 4,at2,hp0.le l7,⟨by omega,by omega⟩,⟨by omega,by omega⟩,t2,e7⟩⟩
theorem RQ.zero {V:View}:RQ V (.agg #[.bool false,.slice none 0 0,.slice none 0 0]) ((0:Int):Rat):=⟨none,0,0,none,0,0,rfl,RD.nil,RD.nil⟩
theorem RP.zero {V:View}:RP V (.agg #[.bool false,.slice none 0 0,.slice none 0 0,.bool false,.slice none 0 0,.slice none 0 0]) ((0:Int):Rat) ((0:Int):Rat):=
 ⟨none,0,0,none,0,0,none,0,0,none,0,0,rfl,RQ.zero,RQ.zero⟩
theorem sz4 {z:Int} (h:-40<=z/\z<=40):Sz 10 (z:Rat):=sz_int (by omega) (by omega)
theorem c_V {V:View} {tb:Nat} {p:OA} {n c:Nat} {at_:Int} (hr:Rdl V p n) (hn:n<=400) (hw:TpAt V tb p n c at_) (hx:V.X tb) (h0:0<=at_) :
  Acts prog 98 #[.pointer (some ⟨tb,0,none⟩)] V fun r V'=>∃(x y at':Int),RP V' r (x:Rat) (y:Rat)/\(-4<=x/\x<=4)/\(-4<=y/\y<=4)/\¬ (x=0/\y=0)/\0<=at'/\TpAt V' tb p n c at':=by
 refine vc_scene_Tape_V tb p n c at_ V _ hw hx fun V1 l1 bk1 e1 h1=>(c_P (V:=V1.lend [bk1]) (hr.le fun b o h=>l1 b o h) hn e1 ⟨by simp,h1⟩ h0).mono ?_
 rintro r V2 l2 ⟨x,y,at1,hp,hx1,hy1,t1,hw1⟩
 have hp0:=hp
 obtain ⟨p1,n1,c1,p2,n2,c2,p3,n3,c3,p4,n4,c4,rfl,-⟩:=hp
 refine ⟨_,_,_,_,_,_,_,_,_,_,_,_,_,_,rfl,_,_,_,_,hw1,fun V3 l3=>(c_ref04_Same (hp0.le fun b o h=>l3 b o h) RP.zero (sz4 (by omega)) (sz4 (by omega)) (sz4 (by omega)) (sz4 (by omega)) (by omega)).mono ?_⟩
 rintro r V4 l4 rfl
 refine ⟨_,rfl,fun g V5 l5=>(c_ref04_Xy 1 0 (by omega) (by omega) (by omega) (by omega)).mono ?_,fun g V8 l8 e8=>⟨x,y,at1,hp0.le fun b o h=>l8 b o (l4 b o (l3 b o h)),hx1,hy1,?_,t1,e8⟩⟩
 ·rintro r V6 l6 hq
  have hq0:=hq
  obtain ⟨p1,n1,c1,p2,n2,c2,p3,n3,c3,p4,n4,c4,rfl,-⟩:=hq
  exact ⟨_,_,_,_,_,_,_,_,_,_,_,_,_,_,rfl,fun V7 l7 e7=>⟨1,0,at1,hq0.le l7,⟨by omega,by omega⟩,⟨by omega,by omega⟩,by omega,t1,e7⟩⟩
 ·rintro ⟨rfl,rfl⟩
  simp at g
theorem c_L {V:View} {tb:Nat} {p:OA} {n c:Nat} {at_:Int} (hr:Rdl V p n) (hn:n<=400) (hw:TpAt V tb p n c at_) (hx:V.X tb) (h0:0<=at_) :
  Acts prog 34 #[.pointer (some ⟨tb,0,none⟩)] V fun r V'=>∃(x:L3) (at':Int),RL V' r x.1 x.2.1 x.2.2/\okL x=true/\Bd x/\0<=at'/\TpAt V' tb p n c at':=by
 refine vc_scene_Tape_L tb p n c at_ V _ hw hx fun V1 l1 bk1 e1 h1=>(c_P (V:=V1.lend [bk1]) (hr.le fun b o h=>l1 b o h) hn e1 ⟨by simp,h1⟩ h0).mono ?_
 rintro r V2 l2 ⟨x,y,at1,hp,hx1,hy1,t1,hw1⟩
 have hp0:=hp
 obtain ⟨p1,n1,c1,p2,n2,c2,p3,n3,c3,p4,n4,c4,rfl,-⟩:=hp
 refine ⟨_,_,_,_,_,_,_,_,_,_,_,_,_,_,rfl,_,_,_,_,hw1,fun V3 l3=>(c_num_Of 1 (by omega) (by omega)).mono ?_⟩
 rintro r V4 l4 hq
 have hq0:=hq
 obtain ⟨p5,n5,c5,p6,n6,c6,rfl⟩:=hq.shape
 refine ⟨_,_,_,_,_,_,_,rfl,fun V5 l5 bk13 e5 h5=>(c_V (V:=V5.lend [bk13]) (hr.le fun b o h=>l5 b o (l4 b o (l3 b o (l2 b o (l1 b o h))))) hn e5 ⟨by simp,h5⟩ t1).mono ?_⟩
 rintro r V6 l6 ⟨u,w,at2,hv,hu1,hw1',hne,t2,hw2⟩
 have hv0:=hv
 obtain ⟨q1,m1,d1,q2,m2,d2,q3,m3,d3,q4,m4,d4,rfl,-⟩:=hv
 refine ⟨_,_,_,_,_,_,_,_,_,_,_,_,_,_,rfl,_,_,_,_,hw2,fun V7 l7=>?_⟩
 have l27:V2.Le V7:=fun b o h=>l7 b o (l6 b o (l5 b o (l4 b o (l3 b o h))))
 have l47:V4.Le V7:=fun b o h=>l7 b o (l6 b o (l5 b o h))
 have l67:V6.Le V7:=fun b o h=>l7 b o h
 refine (c_ref04_Add (hp0.le l27) (hq0.le l47) (hv0.le l67) (k:=10) (m:=10) (sz4 (by omega)) (sz4 (by omega)) (sz4 (by omega)) (sz4 (by omega)) (sz4 (by omega)) (by omega)).mono ?_
 rintro r V8 l8 hs
 have hs0:=hs
 obtain ⟨s1,i1,j1,s2,i2,j2,s3,i3,j3,s4,i4,j4,rfl,-⟩:=hs
 have f1:(x:Rat) + ((1:Int):Rat) * (u:Rat)=((x + u:Int):Rat):=by rw [← Rat.intCast_mul,← Rat.intCast_add,Int.one_mul]
 have f2:(y:Rat) + ((1:Int):Rat) * (w:Rat)=((y + w:Int):Rat):=by rw [← Rat.intCast_mul,← Rat.intCast_add,Int.one_mul]
 refine ⟨_,_,_,_,_,_,_,_,_,_,_,_,_,_,rfl,fun V9 l9=>(c_ref04_Through (hp0.le (l27.trans (l8.trans l9))) (hs0.le l9) (k:=10) (sz4 (by omega)) (sz4 (by omega)) (by rw [f1]; exact sz4 (by omega)) (by rw [f2]; exact sz4 (by omega)) (by omega) (by omega)).mono ?_⟩
 rintro r V10 l10 ⟨-,h⟩
 rw [thr_int] at h
 have n1:((-w:Int):Rat).num=-w:=rfl
 have n2:((u:Int):Rat).num=u:=rfl
 have n3:((w * x - u * y:Int):Rat).num=w * x - u * y:=rfl
 dsimp only at h
 rw [n1,n2,n3] at h
 obtain ⟨l,rfl,hl⟩:=h (by omega)
 have m1:=mul_bd hw1' hx1
 have m2:=mul_bd hu1 hy1
 obtain ⟨k1,k2⟩:=lnOf_ok (a:=-w) (b:=u) (c:=w * x - u * y) (by omega) (by omega) (by omega) (by omega)
 have hl0:=hl
 obtain ⟨b1,u1,v1,w1,b2,u2,v2,w2,b3,u3,v3,w3,rfl⟩:=(RL_shape' hl)
 exact ⟨_,_,_,_,_,_,_,_,_,_,_,_,_,rfl,fun V11 l11 e11=>⟨lnOf (-w) u (w * x - u * y),at2,hl0.le l11,k1,k2,t2,e11⟩⟩
end Go.Proofs.Tryz
/- By program: the conditions of the functions, from their loaded code. -/
namespace Go.Proofs.Tryz
open Go.Eng
open Go.Value renaming int→I,pointer→P,slice→S,agg→A,bool→B,tuple→T
open Go.IntKind renaming i64→J,u64→U,u32→W
set_option maxRecDepth 100000
theorem vc_ref14_Code (b:Bool) (V:View) (R:VR) (h:(∀a,V.Le a->∀c:Nat,(a.blk c (.cells #[B true,B b,B false,S none 0 0,B false,S none 0 0,B false,S none 0 0,P none,P none] 74 (0,0)))->R (P (some ⟨c,0,none⟩)) a)):
 Acts prog 70 #[B b] V R:=
 fd (LF:=LF0) (RF:=[1000015]) [] [] func70 h
theorem vc_ref14_write (d:OA) (x a g:Nat) (b:List Value) (V:View) (R:VR) (hw100000:b≠[]->V.w.heap[x]?=some (.cells b.toArray 82 (0,0))) (hx100000:b≠[]->V.X x) (h:(d.isSome=true)/\(d.isSome=true)/\(∃b5,(∃c1,addrAdd d 0=some c1/\V.at c1 (B b5))/\((b5=true->(d.isSome=true)/\(d.isSome=true)/\(∃b6,(∃c2,addrAdd d 1=some c2/\V.at c2 (B b6))/\((b6=true->(∀b7:View,∀a6:Nat,V.Le (b7.hideG (b≠[]) a6)->(b≠[]->b7.w.heap[a6]?=some (.cells b.toArray 82 (0,0)))->(b≠[]->V.w.heap.size<=a6 \/ (b≠[]/\a6=x) \/ False)->R (T #[S (mA a6 g) a g,I J (-2)]) b7))/\(b6=false->(∀b8:View,∀a7:Nat,V.Le (b8.hideG (b≠[]) a7)->(b≠[]->b8.w.heap[a7]?=some (.cells b.toArray 82 (0,0)))->(b≠[]->V.w.heap.size<=a7 \/ (b≠[]/\a7=x) \/ False)->R (T #[S (mA a7 g) a g,I J (-1)]) b8)))))/\(b5=false->(d.isSome=true)/\(d.isSome=true)/\(∃c3,∃c4 c5 c6,∃c7,∃c8 c9 d0,∃d1,∃d2 d3 d4,∃y,addrAdd d 2=some y/\V.at (y.add 0) (B c3)/\V.at (y.add 1) (S c4 c5 c6)/\V.at (y.add 2) (B c7)/\V.at (y.add 3) (S c8 c9 d0)/\V.at (y.add 4) (B d1)/\V.at (y.add 5) (S d2 d3 d4)/\(Ca V 56 #[A #[B c3,S c4 c5 c6,B c7,S c8 c9 d0,B d1,S d2 d3 d4]] fun e2 d5=>∃i,∃k l m,∃n,∃o p q,∃r,∃s t u,e2=A #[B i,S k l m,B n,S o p q,B r,S s t u]/\((a + 1) * 112<=140737488355328/\a<=g/\g * 8<=b.length/\([B i,S k l m,B n,S o p q,B r,S s t u,I J 0,I J 0]:List Value).length=1 * 8/\(∀e3 ∈ ([B i,S k l m,B n,S o p q,B r,S s t u,I J 0,I J 0]:List Value),e3.oneCell'=true)/\∀(z:List Value) (b3:Nat),a + 1<=b3->b3 * 8<=(a + 1) * 8 + z.length->(d.isSome=true)/\(d.isSome=true)/\(∃d6,(∃d7,addrAdd d 8=some d7/\d5.at d7 (P d6))/\(∀a0,d5.Le a0->∀a8:Nat,((b.take (a * 8)++([B i,S k l m,B n,S o p q,B r,S s t u,I J 0,I J 0]:List Value)++z)≠[]->a0.w.heap[a8]?=some (.cells (b.take (a * 8)++([B i,S k l m,B n,S o p q,B r,S s t u,I J 0,I J 0]:List Value)++z).toArray 82 (0,0)))->((b.take (a * 8)++([B i,S k l m,B n,S o p q,B r,S s t u,I J 0,I J 0]:List Value)++z)≠[]->a0.H a8)->Acts prog 76 #[P d6,S (mA a8 b3) (a + 1) b3] (a0.lend [vb (b.take (a * 8)++([B i,S k l m,B n,S o p q,B r,S s t u,I J 0,I J 0]:List Value)++z) a0.w.heap.size a8]) fun e4 b9=>∃(a1:Nat) (e:List Value),(e≠[]->b9.w.heap[a1]?=some (.cells e.toArray 82 (0,0)))/\(e≠[]->a0.w.heap.size<=a1 \/ ((b.take (a * 8)++([B i,S k l m,B n,S o p q,B r,S s t u,I J 0,I J 0]:List Value)++z)≠[]/\a1=a8))/\∃(e6:OA) (d8 b4:Nat),∃a2,e4=T #[S (mA a1 b4) d8 b4,I J a2]/\(d.isSome=true)/\(d.isSome=true)/\(∃d9,(∃e0,addrAdd d 9=some e0/\(b9.shut.hideG (e≠[]) a1).at e0 (P d9))/\(∀a3:View,(b9.shut.hideG (e≠[]) a1).Le a3->∀a9:Nat,(e≠[]->a3.w.heap[a9]?=some (.cells e.toArray 82 (0,0)))->(e≠[]->a3.H a9)->Acts prog 76 #[P d9,S (mA a9 b4) d8 b4] (a3.lend [vb e a3.w.heap.size a9]) fun e5 e1=>∃(b0:Nat) (f:List Value),(f≠[]->e1.w.heap[b0]?=some (.cells f.toArray 82 (0,0)))/\(f≠[]->a3.w.heap.size<=b0 \/ (e≠[]/\b0=a9))/\∃(e7:OA) (a4 a5:Nat),∃b1,e5=T #[S (mA b0 a5) a4 a5,I J b1]/\(0<=(a:Int)/\(a:Int) < (a4:Int))/\(a4<=a5)/\(((((a:Int).toNat) * 8) + 6) + 1<=f.length)/\(0<=(a:Int)/\(a:Int) < (a4:Int))/\(a4<=a5)/\(((((a:Int).toNat) * 8) + 7) + 1<=(f.set ((((a:Int).toNat) * 8) + 6) (I J a2)).length)/\(∀c0:View,∀b2:Nat,(e1.shut.hideG (f≠[]) b0).Le (c0.hideG (((f.set ((((a:Int).toNat) * 8) + 6) (I J a2)).set ((((a:Int).toNat) * 8) + 7) (I J b1))≠[]) b2)->(((f.set ((((a:Int).toNat) * 8) + 6) (I J a2)).set ((((a:Int).toNat) * 8) + 7) (I J b1))≠[]->c0.w.heap[b2]?=some (.cells ((f.set ((((a:Int).toNat) * 8) + 6) (I J a2)).set ((((a:Int).toNat) * 8) + 7) (I J b1)).toArray 82 (0,0)))->(((f.set ((((a:Int).toNat) * 8) + 6) (I J a2)).set ((((a:Int).toNat) * 8) + 7) (I J b1))≠[]->V.w.heap.size<=b2 \/ (b≠[]/\b2=x) \/ False)->R (T #[S (mA b2 a5) a4 a5,I J (a:Int)]) c0)))))))))))):
 Acts prog 76 #[P d,S (mA x g) a g] V R:=
 fn_does (LF:=LF0) (RF:=[1000015]) (β0:=(upd1 (fun _=>0) 100000 x)) tab_ok mixed [] [] func76 (by kernel_rfl) [(0,.c (.v (P d))),(1,.c (.msl 100000 a g))] [(100000,⟨.mrow b,82⟩)] (by kernel_rfl) ⟨⟨hw100000,hx100000⟩,trivial,trivial⟩ h (by kernel_rfl)
theorem vc_ref14_Write (f:OA) (V:View) (R:VR) (h:(∀d,V.Le d->Acts prog 76 #[P f,S none 0 0] d fun m g=>∃(b:Nat) (a:List Value),(a≠[]->g.w.heap[b]?=some (.cells a.toArray 82 (0,0)))/\(a≠[]->d.w.heap.size<=b \/ False)/\∃(n:OA) (i c:Nat),∃k,m=T #[S (mA b c) i c,I J k]/\(∀e:View,(g.shut.hideG (a≠[]) b).Le e->∀l:Nat,(a≠[]->e.blk l (.cells a.toArray 82 (0,0)))->R (A #[I J k,S (mA l c) i c]) e))):
 Acts prog 19 #[P f] V R:=
 fd (LF:=LF0) (RF:=[1000015]) [] [] func19 h
end Go.Proofs.Tryz
/- Trees of the reference in memory: Code, the tape's Tree. -/
namespace Go.Proofs.Tryz
open Go.Eng Go.Big
/-- A tree of the reference. -/
def RW (V:View):OA->Tr->Prop
 | p,.leaf i=>∃(b:Nat) (c2 c3 c4 c5 c6 c7 c8 c9:Value),p=some ⟨b,0,none⟩/\V.blk b (.cells #[.bool true,.bool i,c2,c3,c4,c5,c6,c7,c8,c9] 74 (0,0))
 | p,.node l x y=>∃(b:Nat) (i:Bool) (b1:Bool) (p1:OA) (n1 c1:Nat) (b2:Bool) (p2:OA) (n2 c2:Nat) (b3:Bool) (p3:OA) (n3 c3:Nat) (pl pr:OA),p=some ⟨b,0,none⟩ /\
   V.blk b (.cells #[.bool false,.bool i,.bool b1,.slice p1 n1 c1,.bool b2,.slice p2 n2 c2,.bool b3,.slice p3 n3 c3,.pointer pl,.pointer pr] 74 (0,0)) /\
   RL V (.agg #[.bool b1,.slice p1 n1 c1,.bool b2,.slice p2 n2 c2,.bool b3,.slice p3 n3 c3]) l.1 l.2.1 l.2.2/\RW V pl x/\RW V pr y
theorem RW.le {V V':View} (h:V.Le V'):∀{t:Tr} {p:OA},RW V p t->RW V' p t
 | .leaf i,p,⟨b,c2,c3,c4,c5,c6,c7,c8,c9,e,hb⟩=>⟨b,c2,c3,c4,c5,c6,c7,c8,c9,e,h _ _ hb⟩
 | .node l x y,p,⟨b,i,b1,p1,n1,c1,b2,p2,n2,c2,b3,p3,n3,c3,pl,pr,e,hb,hl,hx,hy⟩=>⟨b,i,b1,p1,n1,c1,b2,p2,n2,c2,b3,p3,n3,c3,pl,pr,e,h _ _ hb,hl.le h,RW.le h hx,RW.le h hy⟩
theorem c_ref14_Code {V:View} (i:Bool):Acts prog 70 #[.bool i] V fun r V'=>∃p,r=.pointer p/\RW V' p (.leaf i):=
 vc_ref14_Code i V _ fun V1 l1 b hb=>⟨_,rfl,b,_,_,_,_,_,_,_,_,rfl,hb⟩
/-- The lines of a tree are in normal form, and small. -/
def Okb (x:L3):Prop:=okL x=true/\Bd x
theorem c_Tree:∀(k:Nat) {V:View} {tb:Nat} {p:OA} {n c:Nat} {at_:Int},k<=10->Rdl V p n->n<=400->TpAt V tb p n c at_->V.X tb->0<=at_ ->
  Acts prog 16 #[.pointer (some ⟨tb,0,none⟩),.int .i64 (k:Int)] V fun r V'=>∃q t at',r=.pointer q/\RW V' q t/\t.All Okb/\t.size < 2 ^ k/\0<=at'/\TpAt V' tb p n c at':=by
 intro k
 induction k with
 | zero=>
  intro V tb p n c at_ _ hr hn hw hx h0
  refine vc_scene_Tape_Tree tb p n c at_ _ V _ hw hx ⟨fun g V1 l1 bk1 e1 h1=>(c_Next (V:=V1.lend [bk1]) 2 (hr.le fun b o h=>l1 b o h) hn e1 ⟨by simp,h1⟩ h0 (by omega) (by omega)).mono ?_,fun g=>by simp at g⟩
  rintro r V2 l2 ⟨x,at1,rfl,-,-,t1,hw1⟩
  refine ⟨_,rfl,_,_,_,_,hw1,fun V3 l3=>(c_ref14_Code _).mono ?_⟩
  rintro r V4 l4 ⟨q,rfl,hq⟩
  exact ⟨_,rfl,fun V5 l5 e5=>⟨_,_,at1,rfl,hq.le l5,trivial,by simp [Tr.size],t1,e5⟩⟩
 | succ k ih=>
  intro V tb p n c at_ hk hr hn hw hx h0
  refine vc_scene_Tape_Tree tb p n c at_ _ V _ hw hx ⟨fun g=>by rw [beq_iff_eq] at g; omega,fun _ V6 l6 bk6 e6 h6=>(c_Next (V:=V6.lend [bk6]) 4 (hr.le fun b o h=>l6 b o h) hn e6 ⟨by simp,h6⟩ h0 (by omega) (by omega)).mono ?_⟩
  rintro r V7 l7 ⟨x,at1,rfl,-,-,t1,hw1⟩
  have l07:V.Le V7:=fun b o h=>l7 b o (l6 b o h)
  refine ⟨_,rfl,_,_,_,_,hw1,fun g V8 l8 bk10 e8 h8=>(c_Next (V:=V8.lend [bk10]) 2 (hr.le fun b o h=>l8 b o (l07 b o h)) hn e8 ⟨by simp,h8⟩ t1 (by omega) (by omega)).mono ?_,fun g V13 l13 bk15 e13 h13=>(c_L (V:=V13.lend [bk15]) (hr.le fun b o h=>l13 b o (l07 b o h)) hn e13 ⟨by simp,h13⟩ t1).mono ?_⟩
  ·rintro r V9 l9 ⟨x,at2,rfl,-,-,t2,hw2⟩
   refine ⟨_,rfl,_,_,_,_,hw2,fun V10 l10=>(c_ref14_Code _).mono ?_⟩
   rintro r V11 l11 ⟨q,rfl,hq⟩
   exact ⟨_,rfl,fun V12 l12 e12=>⟨_,_,at2,rfl,hq.le l12,trivial,by simpa [Tr.size] using Nat.two_pow_pos _,t2,e12⟩⟩
  ·rintro r V14 l14 ⟨ln,at2,hl,hok,hbd,t2,hw2⟩
   have hl0:=hl
   obtain ⟨b1,u1,v1,w1,b2,u2,v2,w2,b3,u3,v3,w3,rfl⟩:=(RL_shape' hl)
   have l014:V.Le V14:=fun b o h=>l14 b o (l13 b o (l07 b o h))
   have wk:i64.wrap (((k + 1:Nat):Int) - 1)=(k:Int):=by rw [i64w (by omega)]; omega
   refine ⟨_,_,_,_,_,_,_,_,_,_,_,_,rfl,_,_,_,_,hw2,fun V15 l15 bk24 e15 h15=>?_⟩
   rw [wk]
   refine ((ih (V:=V15.lend [bk24]) (by omega) (hr.le fun b o h=>l15 b o (l014 b o h)) hn e15 ⟨by simp,h15⟩ t2).mono ?_)
   rintro r V16 l16 ⟨qa,ta,at3,rfl,hqa,hta,hsa,t3,hw3⟩
   have l016:V.Le V16:=fun b o h=>l16 b o (l15 b o (l014 b o h))
   refine ⟨_,rfl,_,_,_,_,hw3,fun V17 l17 bk28 e17 h17=>(ih (V:=V17.lend [bk28]) (by omega) (hr.le fun b o h=>l17 b o (l016 b o h)) hn e17 ⟨by simp,h17⟩ t3).mono ?_⟩
   rintro r V18 l18 ⟨qb,tb',at4,rfl,hqb,htb,hsb,t4,hw4⟩
   refine ⟨_,rfl,_,_,_,_,hw4,fun V19 l19 bk32 e19 hb=>⟨_,.node ln ta tb',at4,rfl,⟨bk32,_,_,_,_,_,_,_,_,_,_,_,_,_,_,_,rfl,hb,?_,?_,?_⟩,⟨⟨hok,hbd⟩,hta,htb⟩,?_,t4,e19⟩⟩
   ·exact hl0.le fun b o h=>l19 b o (l18 b o (l17 b o (l16 b o (l15 b o h))))
   ·exact RW.le (V:=V16) (V':=V19) (fun b o h=>l19 b o (l18 b o (l17 b o h))) hqa
   ·exact RW.le (V:=V18) (V':=V19) (fun b o h=>l19 b o h) hqb
   ·simp only [Tr.size]; rw [Nat.pow_succ]; omega
end Go.Proofs.Tryz
/- By program: the conditions of the functions, from their loaded code. -/
namespace Go.Proofs.Tryz
open Go.Eng
set_option maxRecDepth 100000
end Go.Proofs.Tryz
/- Contracts: the counts of a tree (package tree, and the reference). -/
namespace Go.Proofs.Tryz
open Go.Eng Go.Big
def Tr.depth:Tr->Nat
 | .leaf _=>0
 | .node _ a b=>1 + max a.depth b.depth
def Tr.ins:Tr->Nat
 | .leaf i=>if i then 1 else 0
 | .node _ a b=>a.ins + b.ins
theorem rw_leaf {V:View} {p:OA} {i:Bool} (h:RW V p (.leaf i)):p.isSome=true/\(∃a,addrAdd p 0=some a/\V.at a (.bool true))/\∃a,addrAdd p 1=some a/\V.at a (.bool i):=by
 obtain ⟨b,c2,c3,c4,c5,c6,c7,c8,c9,rfl,hb⟩:=h
 exact ⟨rfl,rdc hb 0 rfl,rdc hb 1 rfl⟩
end Go.Proofs.Tryz
/- Lists of any element: as they lie in an own row, and in memory. -/
namespace Go.Eng
theorem adr_add2 (a:Addr) (m n:Nat):(a.add m).add n=a.add (m + n):=by
 unfold Addr.add
 by_cases h1:m=0
 ·subst h1; simp
 ·by_cases h2:n=0
  ·subst h2; simp [h1]
  ·rw [if_neg h1,if_neg h2,if_neg (by omega)]
   simp only [Nat.add_assoc]
variable {α:Type} {sz:Nat} {R:View->Value->α->Prop} {V V':View}
/-- The first cells of a row are the elements of a list. -/
structure Row (sz:Nat) (R:View->Value->α->Prop) (V:View) (vs:List Value) (al:List α):Prop where
 at_:∀(i:Nat) (h:i < al.length),∃xs:List Value,xs.length=sz/\R V (.agg xs.toArray) al[i]/\∀j x,xs[j]?=some x->vs[i * sz + j]?=some x
/-- The elements of a list lie one behind the other. -/
structure Lst (sz:Nat) (R:View->Value->α->Prop) (V:View) (p:OA) (n:Nat) (al:List α):Prop where
 len:n=al.length
 at_:∀(i:Nat) (h:i < al.length),∃ad,addrAdd p (i * sz)=some ad/\∃xs:List Value,xs.length=sz/\R V (.agg xs.toArray) al[i]/\∀j x,xs[j]?=some x->V.at (ad.add j) x
theorem Row.nil {vs:List Value}:Row sz R V vs []:=⟨fun i h=>absurd h (Nat.not_lt_zero i)⟩
theorem Lst.nil {p:OA}:Lst sz R V p 0 []:=⟨rfl,fun i h=>absurd h (Nat.not_lt_zero i)⟩
theorem Row.le {vs:List Value} {al:List α} (h:Row sz R V vs al) (m:∀v a,R V v a->R V' v a):Row sz R V' vs al:=
 ⟨fun i hi=>by obtain ⟨xs,h1,h2,h3⟩:=h.at_ i hi; exact ⟨xs,h1,m _ _ h2,h3⟩⟩
theorem Lst.le {p:OA} {n:Nat} {al:List α} (h:Lst sz R V p n al) (l:V.Le V') (m:∀v a,R V v a->R V' v a):Lst sz R V' p n al:=
 ⟨h.len,fun i hi=>by obtain ⟨ad,h0,xs,h1,h2,h3⟩:=h.at_ i hi; exact ⟨ad,h0,xs,h1,m _ _ h2,fun j x hx=>l.at (h3 j x hx)⟩⟩
theorem Row.len_le {vs:List Value} {al:List α} (h:Row sz R V vs al) (hs:0 < sz):al.length * sz<=vs.length:=by
 by_cases h0:al.length=0
 ·rw [h0]; omega
 ·obtain ⟨xs,h1,-,h3⟩:=h.at_ (al.length - 1) (by omega)
  have hx:sz - 1 < xs.length:=by omega
  have:=(List.getElem?_eq_some_iff.1 (h3 (sz - 1) _ (List.getElem?_eq_getElem hx))).1
  have e:al.length * sz=(al.length - 1) * sz + sz:=by
   obtain ⟨m,hm⟩:∃m,al.length=m + 1:=⟨al.length - 1,by omega⟩
   rw [hm,Nat.add_sub_cancel,Nat.succ_mul]
  omega
/-- One more element at the end, al 'append' lays it. -/
theorem Row.snoc {vs:List Value} {al:List α} (h:Row sz R V vs al) {xs sp:List Value} {a:α} (hx:xs.length=sz) (ha:R V (.agg xs.toArray) a) (hs:0 < sz) :
  Row sz R V (vs.take (al.length * sz)++xs++sp) (al++[a]):=by
 have hl:=h.len_le hs
 have ht:(vs.take (al.length * sz)).length=al.length * sz:=by rw [List.length_take]; omega
 refine ⟨fun i hi=>?_⟩
 rw [List.length_append,List.length_singleton] at hi
 by_cases e:i=al.length
 ·subst e
  refine ⟨xs,hx,by rw [List.getElem_append_right (Nat.le_refl _)]; simpa using ha,fun j x hj=>?_⟩
  have hj':=(List.getElem?_eq_some_iff.1 hj).1
  rw [List.append_assoc,List.getElem?_append_right (by rw [ht]; omega),ht,Nat.add_sub_cancel_left,List.getElem?_append_left hj']
  exact hj
 ·have hi':i < al.length:=by omega
  obtain ⟨ys,y1,y2,y3⟩:=h.at_ i hi'
  refine ⟨ys,y1,by rw [List.getElem_append_left hi']; exact y2,fun j x hj=>?_⟩
  have hj':=(List.getElem?_eq_some_iff.1 hj).1
  have hlt:i * sz + j < al.length * sz:=by
   have:(i + 1) * sz<=al.length * sz:=Nat.mul_le_mul_right _ hi'
   rw [Nat.succ_mul] at this
   omega
  rw [List.append_assoc,List.getElem?_append_left (by rw [ht]; exact hlt),List.getElem?_take,if_pos hlt]
  exact y3 j x hj
/-- A row that became memory. -/
theorem Lst.of_row {bk:Nat} {ty:TypeId} {m:Nat × Nat} {vs:List Value} {al:List α} (hb:V.blk bk (.cells vs.toArray ty m)) (h:Row sz R V vs al):Lst sz R V (some ⟨bk,0,none⟩) al.length al:=by
 refine ⟨rfl,fun i hi=>?_⟩
 obtain ⟨xs,h1,h2,h3⟩:=h.at_ i hi
 refine ⟨⟨bk,i * sz,none⟩,by simp [addrAdd,add_zero'],xs,h1,h2,fun j x hj=>?_⟩
 have e:(⟨bk,i * sz,none⟩:Addr).add j=⟨bk,i * sz + j,none⟩:=by rw [← add_zero',adr_add2,add_zero']
 rw [e]
 exact blk_at hb (h3 j x hj)
/-- The same for a slice that may be nil. -/
theorem Lst.of_mrow {bk c:Nat} {ty:TypeId} {m:Nat × Nat} {vs:List Value} {al:List α} (hb:vs≠[]->V.blk bk (.cells vs.toArray ty m)) (h:Row sz R V vs al) (hs:0 < sz) (hc:al.length<=c):Lst sz R V (mA bk c) al.length al:=by
 cases al with
 | nil=>exact Lst.nil
 | cons a r=>
  have hne:vs≠[]:=fun e=>by
   have:=h.len_le hs
   rw [e,List.length_cons,Nat.succ_mul] at this
   simp at this; omega
  have:mA bk c=some ⟨bk,0,none⟩:=by unfold mA; rw [if_neg]; rw [List.length_cons] at hc; omega
  rw [this]
  exact Lst.of_row (hb hne) h
end Go.Eng
/- Rows whose elements change places. -/
namespace Go.Eng
open Go.Proofs.Tryz
variable {α:Type} {sz:Nat} {R:View->Value->α->Prop} {V V':View} {d:α}
theorem Row.get {vs:List Value} {al:List α} (h:Row sz R V vs al) {i:Nat} (hi:i < al.length) (hs:0 < sz) :
  ∃xs:List Value,xs.length=sz/\R V (.agg xs.toArray) (al.getD i d)/\i * sz + sz<=vs.length/\(vs.drop (i * sz)).take sz=xs:=by
 obtain ⟨xs,h1,h2,h3⟩:=h.at_ i hi
 have hl:=h.len_le hs
 have:(i + 1) * sz<=al.length * sz:=Nat.mul_le_mul_right _ hi
 rw [Nat.succ_mul] at this
 refine ⟨xs,h1,by simpa [List.getD_eq_getElem?_getD,hi] using h2,by omega,?_⟩
 apply List.ext_getElem?
 intro j
 rw [List.getElem?_take]
 split
 ·rename_i hj
  rw [List.getElem?_drop]
  have hx:j < xs.length:=by omega
  rw [h3 j _ (List.getElem?_eq_getElem hx),List.getElem?_eq_getElem hx]
 ·rename_i hj
  rw [List.getElem?_eq_none (by omega)]
theorem Row.put {vs:List Value} {al:List α} (h:Row sz R V vs al) {i:Nat} (hi:i < al.length) (hs:0 < sz) {xs:List Value} {a:α} (hx:xs.length=sz) (ha:R V (.agg xs.toArray) a) :
  Row sz R V (setVals vs (i * sz) xs) (al.set i a):=by
 have hl:=h.len_le hs
 have h9:∀k,k < al.length->k * sz + sz<=vs.length:=fun k hk=>by
  have:(k + 1) * sz<=al.length * sz:=Nat.mul_le_mul_right _ hk
  rw [Nat.succ_mul] at this
  omega
 have hi9:=h9 i hi
 rw [setVals_eq (by omega)]
 have ht:(vs.take (i * sz)).length=i * sz:=by rw [List.length_take]; omega
 refine ⟨fun k hk=>?_⟩
 rw [List.length_set] at hk
 by_cases e:k=i
 ·subst e
  refine ⟨xs,hx,by simpa using ha,fun j x hj=>?_⟩
  have hj':=(List.getElem?_eq_some_iff.1 hj).1
  rw [List.append_assoc,List.getElem?_append_right (by omega),ht,Nat.add_sub_cancel_left,List.getElem?_append_left hj']
  exact hj
 ·obtain ⟨ys,y1,y2,y3⟩:=h.at_ k hk
  refine ⟨ys,y1,by rw [List.getElem_set_ne (fun e'=>e e'.symm)]; exact y2,fun j x hj=>?_⟩
  have hj':=(List.getElem?_eq_some_iff.1 hj).1
  by_cases lt:k < i
  ·have:(k + 1) * sz<=i * sz:=Nat.mul_le_mul_right _ lt
   rw [Nat.succ_mul] at this
   rw [List.append_assoc,List.getElem?_append_left (by omega),List.getElem?_take,if_pos (by omega)]
   exact y3 j x hj
  ·have:(i + 1) * sz<=k * sz:=Nat.mul_le_mul_right _ (by omega)
   rw [Nat.succ_mul] at this
   rw [List.getElem?_append_right (by rw [List.length_append]; omega),List.length_append,ht,hx,List.getElem?_drop]
   rw [show i * sz + sz + (k * sz + j - (i * sz + sz))=k * sz + j by omega]
   exact y3 j x hj
theorem setVals_len {vs xs:List Value} {o:Nat} (h:o + xs.length<=vs.length):(setVals vs o xs).length=vs.length:=by
 rw [setVals_eq h]; simp only [List.length_append,List.length_take,List.length_drop]; omega
/-- Two elements change places. -/
theorem Row.swap {vs:List Value} {al:List α} (h:Row sz R V vs al) {i j:Nat} (hi:i < al.length) (hj:j < al.length) (hs:0 < sz) {xs ys:List Value} (hx:xs.length=sz) (hy:ys.length=sz) (h1:R V (.agg xs.toArray) (al.getD i d)) (h2:R V (.agg ys.toArray) (al.getD j d)) :
  Row sz R V (setVals (setVals vs (i * sz) ys) (j * sz) xs) (swp d al i j):=by
 have:=h.put hi hs hy h2
 exact this.put (by simpa using hj) hs hx h1
end Go.Eng
