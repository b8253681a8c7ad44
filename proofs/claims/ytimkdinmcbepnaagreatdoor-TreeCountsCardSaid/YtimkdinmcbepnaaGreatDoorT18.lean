/- A part of the proof (joined by program from: VLines, TreeG, VLinesR, RefK, DistP, RefL, VLaw14C). -/
import Derived.Test.YtimkdinmcbepnaaGreatDoorT5
import Derived.Test.YtimkdinmcbepnaaGreatDoorT14
import Derived.Test.YtimkdinmcbepnaaGreatDoorT17
import Derived.Test.YtimkdinmcbepnaaGreatDoorT15
set_option linter.unusedVariables false
open Go.IntKind (i64 u64 u32)
/- By program: the conditions of the functions, from their loaded code. -/
namespace Go.Proofs.Tryz
open Go.Eng
open Go.Value renaming int→I,pointer→P,slice→S,agg→A,bool→B,tuple→T
open Go.IntKind renaming i64→J,u64→U,u32→W
set_option maxRecDepth 100000
theorem vc_geo_Ln_Canon (a b:Int) (c:OA) (d e:Int) (f:OA) (g i:Int) (k:OA) (V:View) (R:VR) (h:(Ca V 179 #[A #[I J a,I J b,P c]] fun a3 a4=>∃n,a3=I J n/\(Ca a4 179 #[A #[I J d,I J e,P f]] fun a5 a6=>∃o,a5=I J o/\(∀l,a6.Le l->∀p:Nat,(l.blk p (.cells #[I J n,I J o] 3 (0,0)))->Acts prog 210 #[S (some ⟨p,0,none⟩) 2 2] l fun a7 q=>∃m,a7=I J m/\∀b0:C->Value,(((decide (m < (0:Int)))=true->(Ca q 211 #[A #[I J a,I J b,P c,I J d,I J e,P f,I J g,I J i,P k]] fun a8 a9=>∃r,∃s,∃t,∃u,∃w,∃x,∃y,∃z,∃a0,a8=A #[I J r,I J s,P t,I J u,I J w,P x,I J y,I J z,P a0]/\(Rt a9 R (T #[A #[I J r,I J s,P t,I J u,I J w,P x,I J y,I J z,P a0],B true]))))/\((decide (m < (0:Int)))=false->(Rt q R (T #[A #[I J a,I J b,P c,I J d,I J e,P f,I J g,I J i,P k],B false])))))))):
 Acts prog 162 #[A #[I J a,I J b,P c,I J d,I J e,P f,I J g,I J i,P k]] V R:=
 fd (LF:=LF0) (RF:=[210,1000010]) [] [] func162 h
theorem vc_bsp_T_Lines_1 (t:OA) (f g b i:Nat) (a:List Value) (V:View) (R:VR) (hw100000:V.w.heap[f]?=some (.cells #[S (mA g i) b i] 186 (0,0))) (hx100000:V.X f) (hw100001:a≠[]->V.w.heap[g]?=some (.cells a.toArray 182 (0,0))) (hx100001:a≠[]->V.X g) (hn100000_100001:a≠[]->f≠g) (h:(Ca V 115 #[P t] fun b2 d=>∃a2,b2=B a2/\(((!a2)=true->(t.isSome=true)/\(t.isSome=true)/\(∃a3,∃a4,∃a5,∃a6,∃a7,∃a8,∃a9,∃b0,∃b1,∃e,addrAdd t 0=some e/\d.at (e.add 0) (I J a3)/\d.at (e.add 1) (I J a4)/\d.at (e.add 2) (P a5)/\d.at (e.add 3) (I J a6)/\d.at (e.add 4) (I J a7)/\d.at (e.add 5) (P a8)/\d.at (e.add 6) (I J a9)/\d.at (e.add 7) (I J b0)/\d.at (e.add 8) (P b1)/\(Ca d 162 #[A #[I J a3,I J a4,P a5,I J a6,I J a7,P a8,I J a9,I J b0,P b1]] fun b3 b4=>∃k,∃l,∃m,∃n,∃o,∃p,∃q,∃r,∃s,∃b5,b3=T #[A #[I J k,I J l,P m,I J n,I J o,P p,I J q,I J r,P s],B b5]/\((b + 1) * 72<=140737488355328/\b<=i/\i * 9<=a.length/\([I J k,I J l,P m,I J n,I J o,P p,I J q,I J r,P s]:List Value).length=1 * 9/\(∀b6 ∈ ([I J k,I J l,P m,I J n,I J o,P p,I J q,I J r,P s]:List Value),b6.oneCell'=true)/\∀(u:List Value) (z:Nat),b + 1<=z->z * 9<=(b + 1) * 9 + u.length->(∀a0:View,∀x:Nat,b4.Le (a0.hideG ((a.take (b * 9)++([I J k,I J l,P m,I J n,I J o,P p,I J q,I J r,P s]:List Value)++u)≠[]) x)->a0.w.heap[f]?=some (.cells #[S (mA x z) (b + 1) z] 186 (0,0))->((a.take (b * 9)++([I J k,I J l,P m,I J n,I J o,P p,I J q,I J r,P s]:List Value)++u)≠[]->a0.w.heap[x]?=some (.cells (a.take (b * 9)++([I J k,I J l,P m,I J n,I J o,P p,I J q,I J r,P s]:List Value)++u).toArray 182 (0,0)))->((a.take (b * 9)++([I J k,I J l,P m,I J n,I J o,P p,I J q,I J r,P s]:List Value)++u)≠[]->V.w.heap.size<=x \/ (a≠[]/\x=g) \/ False)->R (T #[]) a0)))))/\((!a2)=false->(∀a1:View,∀y:Nat,d.Le (a1.hideG (a≠[]) y)->a1.w.heap[f]?=some (.cells #[S (mA y i) b i] 186 (0,0))->(a≠[]->a1.w.heap[y]?=some (.cells a.toArray 182 (0,0)))->(a≠[]->V.w.heap.size<=y \/ (a≠[]/\y=g) \/ False)->R (T #[]) a1))))):
 Acts prog 161 #[P t,P (some ⟨f,0,none⟩)] V R:=
 fn_does (LF:=LF0) (RF:=[1000010]) (β0:=(upd1 (upd1 (fun _=>0) 100000 f) 100001 g)) tab_ok mixed [] [] func161 (by kernel_rfl) [(0,.c (.v (P t))),(1,.c (.ptr 100000 0))] [(100000,⟨.lit [.msl 100001 b i],186⟩),(100001,⟨.mrow a,182⟩)] (by kernel_rfl) ⟨⟨hw100000,hx100000⟩,⟨hn100000_100001,trivial⟩,⟨⟨hw100001,hx100001⟩,trivial,trivial⟩⟩ h (by kernel_rfl)
theorem vc_bsp_T_Each_Lines (a2:OA) (l m a3 s:Nat) (e:List Value) (V:View) (R:VR) (hw100000:V.w.heap[l]?=some (.cells #[S (mA m s) a3 s] 186 (0,0))) (hx100000:V.X l) (hw100001:e≠[]->V.w.heap[m]?=some (.cells e.toArray 182 (0,0))) (hx100001:e≠[]->V.X m) (hn100000_100001:e≠[]->l≠m) (h:(∃t:(Nat × Nat × (List Value) × Nat × Nat × (List Value))->Nat->VP,(∃(f:Nat × Nat × (List Value) × Nat × Nat × (List Value)) (b5:Nat),(((161:FuncId)=161)/\sm 0/\((1:Nat)=f.1)/\((1:Nat)=f.2.1)/\((1:Nat)≠0)/\((a3:Nat)=f.2.2.2.1)/\((s:Nat)=f.2.2.2.2.1)/\(([P a2]:List Value)=f.2.2.1)/\(e=f.2.2.2.2.2))/\t f b5 V)/\∀(a:Nat × Nat × (List Value) × Nat × Nat × (List Value)) (a4:Nat) (u:View),V.Le u->t a a4 u->(true=true/\(((decide (((a.1:Nat):Int) > (0:Int)))=true->(0<=(J.wrap (((a.1:Nat):Int)-1))/\(J.wrap (((a.1:Nat):Int)-1)) < ((a.1:Nat):Int))/\(a.1<=a.2.1)/\(∃b,a.2.2.1[((J.wrap (((a.1:Nat):Int)-1)).toNat) * 1]?=some (P b)/\(0<=(J.wrap (((a.1:Nat):Int)-1))/\(J.wrap (((a.1:Nat):Int)-1))<=((a.2.1:Nat):Int))/\(∀d,u.Le d->∀n o:Nat,(d.w.heap[n]?=some (.cells #[S (mA o a.2.2.2.2.1) a.2.2.2.1 a.2.2.2.2.1] 186 (0,0)))->(d.H n)->(a.2.2.2.2.2≠[]->d.w.heap[o]?=some (.cells a.2.2.2.2.2.toArray 182 (0,0)))->(a.2.2.2.2.2≠[]->d.H o)->(a.2.2.2.2.2≠[]->n≠o)->Acts prog 161 #[P b,P (some ⟨n,0,none⟩)] (d.lend [n,vb a.2.2.2.2.2 d.w.heap.size o]) fun b6 a5=>∃(q:Nat) (p:List Value),(p≠[]->a5.w.heap[q]?=some (.cells p.toArray 182 (0,0)))/\(p≠[]->d.w.heap.size<=q \/ (a.2.2.2.2.2≠[]/\q=o))/\ b6=T #[]/\∃(a6 x:Nat),a5.w.heap[n]?=some (.cells #[S (mA q x) a6 x] 186 (0,0))/\(∀a9:View,(a5.shut.hideG (p≠[]) q).Le a9->Acts prog 115 #[P b] a9 fun b7 y=>∃a7,b7=B a7/\(((!a7)=true->(b.isSome=true)/\(b.isSome=true)/\(∃z,(∃b0,addrAdd b 10=some b0/\y.at b0 (P z))/\(b.isSome=true)/\(b.isSome=true)/\(∃a0,(∃b1,addrAdd b 9=some b1/\y.at b1 (P a0))/\((((J.wrap (((a.1:Nat):Int)-1)).toNat) + 2) * 8<=140737488355328/\(J.wrap (((a.1:Nat):Int)-1)).toNat<=a.2.1/\a.2.1 * 1<=a.2.2.1.length/\([P z,P a0]:List Value).length=2 * 1/\(∀b8 ∈ ([P z,P a0]:List Value),b8.oneCell'=true)/\∀(b2:List Value) (a8:Nat),((J.wrap (((a.1:Nat):Int)-1)).toNat) + 2<=a8->a8 * 1<=(((J.wrap (((a.1:Nat):Int)-1)).toNat) + 2) * 1 + b2.length->(∃(g:Nat × Nat × (List Value) × Nat × Nat × (List Value)) (b3:Nat),b3 < a4/\(((161:FuncId)=161)/\((((J.wrap (((a.1:Nat):Int)-1)).toNat) + 2:Nat)=g.1)/\((a8:Nat)=g.2.1)/\((a6:Nat)=g.2.2.2.1)/\((x:Nat)=g.2.2.2.2.1)/\((a.2.2.1.take (((J.wrap (((a.1:Nat):Int)-1)).toNat) * 1)++([P z,P a0]:List Value)++b2)=g.2.2.1)/\(p=g.2.2.2.2.2))/\t g b3 y)))))/\((!a7)=false->(∃(i:Nat × Nat × (List Value) × Nat × Nat × (List Value)) (b4:Nat),b4 < a4/\(((161:FuncId)=161)/\(((J.wrap (((a.1:Nat):Int)-1)).toNat:Nat)=i.1)/\((a.2.1:Nat)=i.2.1)/\((a6:Nat)=i.2.2.2.1)/\((x:Nat)=i.2.2.2.2.1)/\(a.2.2.1=i.2.2.1)/\(p=i.2.2.2.2.2))/\t i b4 y)))))))/\((decide (((a.1:Nat):Int) > (0:Int)))=false->(∀a1:View,∀r:Nat,u.Le (a1.hideG (a.2.2.2.2.2≠[]) r)->a1.w.heap[l]?=some (.cells #[S (mA r a.2.2.2.2.1) a.2.2.2.1 a.2.2.2.2.1] 186 (0,0))->(a.2.2.2.2.2≠[]->a1.w.heap[r]?=some (.cells a.2.2.2.2.2.toArray 182 (0,0)))->(a.2.2.2.2.2≠[]->V.w.heap.size<=r \/ (e≠[]/\r=m) \/ False)->R (T #[]) a1)))))):
 Acts prog 113 #[P a2,.func (.func 161) #[] #[P (some ⟨l,0,none⟩)]] V R:=
 fn_does (LF:=LF0) (RF:=[1000010]) (β0:=(upd1 (upd1 (fun _=>0) 100000 l) 100001 m)) tab_ok mixed [(1,⟨Nat × Nat × (List Value) × Nat × Nat × (List Value),true,[1],[],fun k=>[(4,.c (.msl 4 k.1 k.2.1))],fun k=>[(100000,⟨.lit [.msl 250000 k.2.2.2.1 k.2.2.2.2.1],186⟩),(4,⟨.mrow k.2.2.1,175⟩),(250000,⟨.mrow k.2.2.2.2.2,182⟩)]⟩)] [] func113 (by kernel_rfl) [(0,.c (.v (P a2))),(1,.c (.clo 161 [100000]))] [(100000,⟨.lit [.msl 100001 a3 s],186⟩),(100001,⟨.mrow e,182⟩)] (by kernel_rfl) ⟨⟨hw100000,hx100000⟩,⟨hn100000_100001,trivial⟩,⟨⟨hw100001,hx100001⟩,trivial,trivial⟩⟩ h (by kernel_rfl)
theorem vc_bsp_T_Lines (a3:OA) (V:View) (R:VR) (h:(∃a7:(Nat × Nat × (List Value))->VP,(∃y,(s3 a3 0 (none:OA) (((0:Nat)=y.1)/\((0:Nat)=y.2.1)/\sm 0/\(y.2.2=[])))/\a7 y V)/\∀(b:Nat × Nat × (List Value)) (a4:View),V.Le a4->a7 b a4->(true=true/\(∀e,a4.Le e->∀g i:Nat,(e.w.heap[g]?=some (.cells #[S (mA i b.2.1) b.1 b.2.1] 186 (0,0)))->(e.H g)->(b.2.2≠[]->e.w.heap[i]?=some (.cells b.2.2.toArray 182 (0,0)))->(b.2.2≠[]->e.H i)->(b.2.2≠[]->g≠i)->Acts prog 113 #[P a3,.func (.func 161) #[] #[P (some ⟨g,0,none⟩)]] (e.lend [g,vb b.2.2 e.w.heap.size i]) fun b6 z=>∃(k:Nat) (a:List Value),(a≠[]->z.w.heap[k]?=some (.cells a.toArray 182 (0,0)))/\(a≠[]->e.w.heap.size<=k \/ (b.2.2≠[]/\k=i))/\ b6=T #[]/\∃(p d:Nat),z.w.heap[g]?=some (.cells #[S (mA k d) p d] 186 (0,0))/\((a=[]->(d:Nat)=0/\(∀a8:View,(z.shut.hideG (a≠[]) k).Le a8->Acts prog 163 #[S none p d,.func (.func 164) #[] #[]] a8 fun b7 b8=> b7=T #[]/\(∀l,b8.Le l->∀q:Nat,(a≠[]->l.w.heap[q]?=some (.cells a.toArray 182 (0,0)))->(a≠[]->l.H q)->Acts prog 165 #[S (mA q d) p d,.func (.func 166) #[] #[]] (l.lend [vb a l.w.heap.size q]) fun b9 a9=>∃(r:Nat) (m:List Value),(m≠[]->a9.w.heap[r]?=some (.cells m.toArray 182 (0,0)))/\(m≠[]->l.w.heap.size<=r \/ (a≠[]/\r=q))/\∃(c2:OA) (b0 a0:Nat),b9=S (mA r a0) b0 a0/\(∀a5:View,(a9.shut.hideG (m≠[]) r).Le a5->∀b1:Nat,(m≠[]->a5.blk b1 (.cells m.toArray 182 (0,0)))->R (S (mA b1 a0) b0 a0) a5))))/\(a≠[]->(∀s:View,(z.shut.hideG (a≠[]) k).Le s->∀t:Nat,(a≠[]->s.w.heap[t]?=some (.cells a.toArray 182 (0,0)))->(a≠[]->s.H t)->Acts prog 163 #[S (mA t d) p d,.func (.func 164) #[] #[]] (s.lend [vb a s.w.heap.size t]) fun c0 b2=> c0=T #[]/\a≠[]/\∃f:List Value,f≠[]/\b2.w.heap[t]?=some (.cells f.toArray 182 (0,0))/\(∀n,b2.shut.Le n->∀u:Nat,(f≠[]->n.w.heap[u]?=some (.cells f.toArray 182 (0,0)))->(f≠[]->n.H u)->Acts prog 165 #[S (mA u d) p d,.func (.func 166) #[] #[]] (n.lend [vb f n.w.heap.size u]) fun c1 b3=>∃(x:Nat) (o:List Value),(o≠[]->b3.w.heap[x]?=some (.cells o.toArray 182 (0,0)))/\(o≠[]->n.w.heap.size<=x \/ (f≠[]/\x=u))/\∃(c3:OA) (b4 a1:Nat),c1=S (mA x a1) b4 a1/\(∀a6:View,(b3.shut.hideG (o≠[]) x).Le a6->∀b5:Nat,(o≠[]->a6.blk b5 (.cells o.toArray 182 (0,0)))->R (S (mA b5 a1) b4 a1) a6))))))))):
 Acts prog 116 #[P a3] V R:=
 fd (LF:=LF0) (RF:=[1000010]) [] [(600001,⟨Nat × Nat × (List Value),false,[0],[],fun a2=>[(3,.c (.ptr 3 0))],fun a2=>[(3,⟨.lit [.msl 50003 a2.1 a2.2.1],186⟩),(50003,⟨.mrow a2.2.2,182⟩)]⟩)] func116 h
theorem vc_tree_Lines (a4:Int) (a5:OA) (a6 a7:Nat) (V:View) (R:VR) (h:(Ca V 111 #[A #[I J a4,S a5 a6 a7]] fun c5 y=>∃a8,∃z,c5=T #[P a8,B z]/\(((!z)=true->(∃a9,(∃b0,(some ⟨1,0,none⟩:OA)=some b0/\y.at b0 (a9))/\(Rt y R (T #[S none 0 0,a9]))))/\((!z)=false->(Ca y 116 #[P a8] fun c6 b2=>∃g e a0,c6=S g e a0/\(∃(a1:(Nat × Nat × (List Value) × Int)->VP) (b3:(Nat × Nat × (List Value) × Int)->Nat),(∃i,(s5 g e a0 (e:Int) (none:OA) (((0:Nat)=i.1)/\((0:Nat)=i.2.1)/\sm 0/\((0:Int)=i.2.2.2)/\(i.2.2.1=[])))/\a1 i b2)/\∀(a:Nat × Nat × (List Value) × Int) (b:View),b2.Le b->a1 a b->(true=true/\(((decide (a.2.2.2 < (e:Int)))=true->(g.isSome=true)/\(0<=a.2.2.2/\a.2.2.2 < (e:Int))/\(∃b4,∃b5,∃b6,∃b7,∃b8,∃b9,∃c0,∃c1,∃c2,∃d,addrAdd g (a.2.2.2.toNat * 9)=some d/\b.at (d.add 0) (I J b4)/\b.at (d.add 1) (I J b5)/\b.at (d.add 2) (P b6)/\b.at (d.add 3) (I J b7)/\b.at (d.add 4) (I J b8)/\b.at (d.add 5) (P b9)/\b.at (d.add 6) (I J c0)/\b.at (d.add 7) (I J c1)/\b.at (d.add 8) (P c2)/\(Ca b 117 #[A #[I J b4,I J b5,P b6,I J b7,I J b8,P b9,I J c0,I J c1,P c2]] fun c7 c8=>∃l,∃m n o,∃p,∃q r s,∃t,∃u w x,c7=A #[B l,S m n o,B p,S q r s,B t,S u w x]/\((a.1 + 1) * 96<=140737488355328/\a.1<=a.2.1/\a.2.1 * 6<=a.2.2.1.length/\([B l,S m n o,B p,S q r s,B t,S u w x]:List Value).length=1 * 6/\(∀c9 ∈ ([B l,S m n o,B p,S q r s,B t,S u w x]:List Value),c9.oneCell'=true)/\∀(c3:List Value) (a2:Nat),a.1 + 1<=a2->a2 * 6<=(a.1 + 1) * 6 + c3.length->(∃f:Nat × Nat × (List Value) × Int,b3 f < b3 a/\(s4 g e a0 (e:Int) (((a.1 + 1:Nat)=f.1)/\((a2:Nat)=f.2.1)/\((J.wrap (a.2.2.2 + (1:Int)))=f.2.2.2)/\((a.2.2.1.take (a.1 * 6)++([B l,S m n o,B p,S q r s,B t,S u w x]:List Value)++c3)=f.2.2.1)))/\a1 f c8)))))/\((decide (a.2.2.2 < (e:Int)))=false->(∀a3,b.Le a3->∀c4:Nat,(a.2.2.1≠[]->a3.blk c4 (.cells a.2.2.1.toArray 169 (0,0)))->R (T #[S (mA c4 a.2.1) a.1 a.2.1,.nilIface]) a3)))))))))):
 Acts prog 51 #[A #[I J a4,S a5 a6 a7]] V R:=
 fd (LF:=LF0) (RF:=[1000010]) [(6,⟨Nat × Nat × (List Value) × Int,false,[18,19],[],fun k=>[(6,.c (.msl 6 k.1 k.2.1)),(20,.c (.v (I J k.2.2.2)))],fun k=>[(6,⟨.mrow k.2.2.1,169⟩)]⟩)] [] func51 h
end Go.Proofs.Tryz
/- Contracts: the lines of a tree (package bsp, package tree). -/
namespace Go.Proofs.Tryz
open Go.Eng Go.Big
/-- A line in canonical orientation. -/
def canL (l:L3):L3:=if l.1 < 0 \/ l.1=0/\l.2.1 < 0 then revL l else l
/-- The lines of the nodes, each before those of its parts. -/
def Tr.lns:Tr->List L3
 | .leaf _=>[]
 | .node l a b=>l :: (a.lns++b.lns)
theorem lns_len:∀t:Tr,t.lns.length=t.size
 | .leaf _=>rfl
 | .node _ a b=>by simp only [Tr.lns,List.length_cons,List.length_append,lns_len a,lns_len b,Tr.size]
theorem lns_all {p:L3->Prop}:∀{t:Tr},t.All p->∀x ∈ t.lns,p x
 | .leaf _,_,x,h=>by cases h
 | .node l a b,⟨h1,h2,h3⟩,x,h=>by
  rcases List.mem_cons.1 h with rfl | h
  ·exact h1
  ·rcases List.mem_append.1 h with h | h
   ·exact lns_all h2 x h
   ·exact lns_all h3 x h
theorem Bd.rev {l:L3} (h:Bd l):Bd (revL l):=by
 obtain ⟨h1,h2,h3⟩:=h
 unfold Bd revL
 simp only [Int.natAbs_neg]
 exact ⟨h1,h2,h3⟩
theorem Bd.can {l:L3} (h:Bd l):Bd (canL l):=by
 unfold canL; split
 ·exact h.rev
 ·exact h
theorem Bd.szl {l:L3} (h:Bd l):SzL 1000 l:=⟨h.sz.1,h.sz.2.1,h.sz.2.2⟩
theorem canL_or {l:L3}:(orI [((l.1:Rat)).num.sign,((l.2.1:Rat)).num.sign] < 0)↔(l.1 < 0 \/ l.1=0/\l.2.1 < 0):=by
 rw [Rat.num_intCast,Rat.num_intCast]
 simp only [orI]
 rcases Int.lt_trichotomy l.1 0 with h | h | h <;> rcases Int.lt_trichotomy l.2.1 0 with h' | h' | h' <;>
  simp [Int.sign_eq_neg_one_of_neg,Int.sign_eq_one_of_pos,h,h'] <;> omega
theorem c_geo_Canon {V:View} {v:Value} {l:L3} (h:RCL V v l):Acts prog 162 #[v] V fun r V'=>∃w b,r=.tuple #[w,.bool b]/\RCL V' w (canL l):=by
 have h0:=h
 obtain ⟨⟨x1,x2,p,y1,y2,q,z1,z2,r,rfl,h1,h2,h3⟩,hb⟩:=h
 obtain ⟨s1,s2,s3⟩:=hb.sz
 refine vc_geo_Ln_Canon _ _ _ _ _ _ _ _ _ V _ fun V1 l1=>(c_R_Sign (h1.le l1) s1 (by omega)).mono ?_
 rintro r V2 l2 rfl
 refine ⟨_,rfl,fun V3 l3=>(c_R_Sign (h2.le (l1.trans (l2.trans l3))) s2 (by omega)).mono ?_⟩
 rintro r V4 l4 rfl
 refine ⟨_,rfl,fun V5 l5 bk hbk=>(c_cmp_Or (l:=[((l.1:Rat)).num.sign,((l.2.1:Rat)).num.sign]) rfl (fun i v hv=>⟨_,rfl,by rw [add_zero']; exact blk_at (xs:=i64s [((l.1:Rat)).num.sign,((l.2.1:Rat)).num.sign]) hbk hv⟩) (by simp)).mono ?_⟩
 rintro r V6 l6 rfl
 have L6:=l1.trans (l2.trans (l3.trans (l4.trans (l5.trans l6))))
 refine ⟨_,rfl,fun J=>⟨fun hc V7 l7=>(k_Reverse (L:=l) ((h0.le (L6.trans l7)).1) hb.szl (by decide)).mono ?_,fun hc V10 l10=>?_⟩⟩
 ·have hc:=canL_or.1 (of_decide_eq_true hc)
  rintro r V8 l8 g
  have g0:RCL V8 r (revL l):=⟨g,hb.rev⟩
  obtain ⟨_,_,_,_,_,_,_,_,_,rfl⟩:=g0.shape
  refine ⟨_,_,_,_,_,_,_,_,_,rfl,fun V9 l9=>⟨_,_,rfl,?_⟩⟩
  unfold canL
  rw [if_pos hc]
  exact g0.le l9
 ·have hc:=of_decide_eq_false hc
  refine ⟨_,_,rfl,?_⟩
  unfold canL
  rw [if_neg fun h=>hc (canL_or.2 h)]
  exact h0.le (L6.trans l10)
theorem one9 {a b:Int} {p:OA} {c d:Int} {q:OA} {e f:Int} {r:OA}:∀v ∈ ([.int .i64 a,.int .i64 b,.pointer p,.int .i64 c,.int .i64 d,.pointer q,.int .i64 e,.int .i64 f,.pointer r]:List Value),v.oneCell'=true:=by
 intro v hm
 simp only [List.mem_cons,List.not_mem_nil,or_false] at hm
 rcases hm with rfl | rfl | rfl | rfl | rfl | rfl | rfl | rfl | rfl <;> rfl
def topL:Tr->List L3
 | .leaf _=>[]
 | .node l _ _=>[canL l]
theorem c_bsp_Lines1 {V:View} {p:OA} {t:Tr} {ob lb n c:Nat} {vs:List Value} {l:List L3} (h:RT V p t) (ha:t.All Bd) (hw:V.w.heap[ob]?=some (.cells #[.slice (mA lb c) n c] 186 (0,0))) (hx:V.X ob)
  (hv:vs≠[]->V.w.heap[lb]?=some (.cells vs.toArray 182 (0,0))) (hxv:vs≠[]->V.X lb) (hne:vs≠[]->ob≠lb) (hg:GR 9 RCL V n c vs l) (hp:vs≠[]->0 < n) (hn:n<=1000000) :
  Acts prog 161 #[.pointer p,.pointer (some ⟨ob,0,none⟩)] V fun r V'=>∃(bm:Nat) (vm:List Value) (n' c':Nat),(vm≠[]->V'.w.heap[bm]?=some (.cells vm.toArray 182 (0,0)))/\(vm≠[]->V.w.heap.size<=bm \/ (vs≠[]/\bm=lb))/\r=.tuple #[] /\
   V'.w.heap[ob]?=some (.cells #[.slice (mA bm c') n' c'] 186 (0,0))/\GR 9 RCL (V'.hideG (vm≠[]) bm) n' c' vm (l++topL t)/\(vm≠[]->0 < n'):=by
 refine vc_bsp_T_Lines_1 p ob lb n c vs V _ hw hx hv hxv hne fun V1 l1=>(c_bsp_IsLeaf (h.le l1)).mono ?_
 rintro r V2 l2 rfl
 have or3:∀{A B:Prop},A \/ B \/ False->A \/ B:=fun h=>h.imp id fun h=>h.elim id False.elim
 refine ⟨_,rfl,fun hl=>?_,fun hl V6 bk hle e1 e2 e3=>⟨bk,vs,n,c,e2,fun h=>or3 (e3 h),rfl,e1,?_,hp⟩⟩
 ·cases t with
  | leaf i=>cases hl
  | node ln a b=>
   obtain ⟨bb,x1,x2,x3,y1,y2,y3,z1,z2,z3,pl,pr,i,rfl,hb,hln,-,-⟩:=h.le (l1.trans l2)
   have hat:∀j v,([.int .i64 x1,.int .i64 x2,.pointer x3,.int .i64 y1,.int .i64 y2,.pointer y3,.int .i64 z1,.int .i64 z2,.pointer z3,.pointer pl,.pointer pr,.bool i]:List Value)[j]?=some v->V2.at ((⟨bb,0,none⟩:Addr).add j) v:=by
    intro j v hv; rw [add_zero']; exact blk_at (xs:=[_,_,_,_,_,_,_,_,_,_,_,_]) hb hv
   refine ⟨rfl,rfl,_,_,_,_,_,_,_,_,_,⟨bb,0,none⟩,rfl,hat 0 _ rfl,hat 1 _ rfl,hat 2 _ rfl,hat 3 _ rfl,hat 4 _ rfl,hat 5 _ rfl,hat 6 _ rfl,hat 7 _ rfl,hat 8 _ rfl,fun V3 l3=>(c_geo_Canon (l:=ln) ⟨hln.le l3,ha.1⟩).mono ?_⟩
   rintro r V4 l4 ⟨w,b,rfl,gw⟩
   have gw0:=gw
   obtain ⟨_,_,_,_,_,_,_,_,_,rfl⟩:=gw.shape
   refine ⟨_,_,_,_,_,_,_,_,_,_,rfl,by omega,hg.le,hg.cap,rfl,one9,fun sp c' g1 g2 V5 bk hle e1 e2 e3=>⟨bk,_,n + 1,c',e2,fun h=>or3 (e3 h),rfl,e1,?_,fun _=>Nat.succ_pos n⟩⟩
   have L4:=l1.trans (l2.trans (l3.trans l4))
   exact ((hg.mono (V':=V4) fun _ _ g=>RCL.le g L4).snoc rfl gw0 (by decide) g1 g2).mono fun _ _ g=>RCL.le g hle
 ·cases t with
  | node ln a b=>cases hl
  | leaf i=>
   show GR 9 RCL _ n c vs (l++[])
   rw [List.append_nil]
   exact hg.mono fun _ _ g=>RCL.le g ((l1.trans l2).trans hle)
def lnS:List Tr->List L3
 | []=>[]
 | t :: r=>t.lns.map canL++lnS r
theorem lnS_snoc (ts:List Tr) (x:Tr):lnS (ts++[x]).reverse=x.lns.map canL++lnS ts.reverse:=by
 rw [List.reverse_append]; rfl
theorem c_bsp_Each_Lines {V:View} {p:OA} {t:Tr} {ob lb:Nat} (h:RT V p t) (ha:t.All Bd) (hs:t.size<=400000) (hw:V.w.heap[ob]?=some (.cells #[.slice (mA lb 0) 0 0] 186 (0,0))) (hx:V.X ob) :
  Acts prog 113 #[.pointer p,.func (.func 161) #[] #[.pointer (some ⟨ob,0,none⟩)]] V fun r V'=>∃(bm:Nat) (vm:List Value) (n' c':Nat),(vm≠[]->V'.w.heap[bm]?=some (.cells vm.toArray 182 (0,0)))/\(vm≠[]->V.w.heap.size<=bm)/\r=.tuple #[] /\
   V'.w.heap[ob]?=some (.cells #[.slice (mA bm c') n' c'] 186 (0,0))/\GR 9 RCL (V'.hideG (vm≠[]) bm) n' c' vm (t.lns.map canL)/\(vm≠[]->0 < n'):=by
 refine vc_bsp_T_Each_Lines p ob lb 0 0 [] V _ hw hx (fun h=>absurd rfl h) (fun h=>absurd rfl h) (fun h=>absurd rfl h) ⟨fun z k V'=>∃(ts:List Tr) (o:List L3),z.1=ts.length/\z.1<=z.2.1/\z.2.1<=z.2.2.1.length/\Stk V' z.2.2.1 ts/\(∀x ∈ ts,x.All Bd)/\GR 9 RCL V' z.2.2.2.1 z.2.2.2.2.1 z.2.2.2.2.2 o/\(z.2.2.2.2.2≠[]->0 < z.2.2.2.1)/\o++lnS ts.reverse=t.lns.map canL/\k=nds ts/\k<=2 * t.size + 1,
  ⟨(1,1,[.pointer p],0,0,[]),2 * t.size + 1,⟨by (try dsimp only); and_intros <;> first | rfl | trivial | omega,[t],[],rfl,Nat.le_refl _,Nat.le_refl _,?_,fun x hx=>by rw [List.mem_singleton.1 hx]; exact ha,GR.nil,(fun h=>absurd rfl h),by simp [lnS],by simp [nds],Nat.le_refl _⟩⟩,?_⟩
 ·intro i x hx
  match i,hx with
  | 0,hx=>cases hx; exact ⟨p,rfl,h⟩
  | n + 1,hx=>cases hx
 ·rintro ⟨n,c,vs,n',c',us⟩ m V1 l1 ⟨ts,o,h1,h2,h3,hst,hal,hg,hpos,h4,h6,h7⟩
  dsimp only at h1 h2 h3 hst hg hpos ⊢
  have hnl:=nds_len ts
  have hol:o.length<=1000000:=by
   have:=congrArg List.length h4
   rw [List.length_append,List.length_map,lns_len] at this
   omega
  have gl:=hg.len
  refine ⟨by trivial,fun g1=>?_,fun g1 V6 bk hle e1 e2 e3=>?_⟩
  ·have g1:0 < n:=by simpa using g1
   have w1:i64.wrap ((n:Int) - 1)=((n - 1:Nat):Int):=by rw [i64w (by omega)]; omega
   rw [w1]
   simp only [Int.toNat_natCast,Nat.mul_one]
   have hlt:n - 1 < ts.length:=by omega
   obtain ⟨q,hq1,hq2⟩:=hst (n - 1) ts[n - 1] (List.getElem?_eq_getElem hlt)
   have hts:ts=ts.take (n - 1)++[ts[n - 1]]:=by
    rw [List.take_append_getElem hlt,List.take_of_length_le (by omega)]
   have hxa:=hal _ (List.getElem_mem hlt)
   generalize ts[n - 1]=x at hq2 hts hxa
   have e1:o++(x.lns.map canL++lnS (ts.take (n - 1)).reverse)=t.lns.map canL:=by
    rw [← lnS_snoc,← hts]; exact h4
   have e2:nds ts=nds (ts.take (n - 1)) + (2 * x.size + 1):=by
    conv=>lhs; rw [hts]
    rw [nds_append]; simp [nds]
   have hat:∀y ∈ ts.take (n - 1),y.All Bd:=fun y hy=>hal y (List.mem_of_mem_take hy)
   refine ⟨⟨by omega,by omega⟩,h2,q,hq1,⟨by omega,by omega⟩,fun V2 l2 bk8 bk9 f1 f2 f3 f4 f5=>(c_bsp_Lines1 (V:=V2.lend [bk8,vb us V2.w.heap.size bk9]) (lb:=bk9) (l:=o) (RT.le (V:=V1) (V':=V2.lend _) (fun b o h=>l2 b o h) hq2) hxa f1 ⟨by simp,f2⟩ f3 (fun h=>⟨by simp [vb_ne h],f4 h⟩) f5 (hg.mono (V':=V2.lend _) fun _ _ g=>RCL.le g fun b o h=>l2 b o h) hpos (by omega)).mono ?_⟩
   rintro r V3 l3 ⟨bm,vm,n2,c2,a1,a2,rfl,a3,a4,a5⟩
   refine ⟨bm,vm,a1,a2,rfl,n2,c2,a3,fun V4 l4=>?_⟩
   have l23:V2.Le V3:=fun b o h=>l3 b o h
   have l2h:V2.Le (V3.shut.hideG (vm≠[]) bm):=le_hideG (V':=V2) l23 (View.Le.refl V2) fun h=>(a2 h).imp id fun h'=>by rw [h'.2]; exact f4 h'.1
   have l14:V1.Le V4:=l2.trans (l2h.trans l4)
   refine (c_bsp_IsLeaf (hq2.le l14)).mono ?_
   rintro r V5 l5 rfl
   have g5:GR 9 RCL V5 n2 c2 vm (o++topL x):=a4.mono fun _ _ g=>RCL.le g fun b o h=>l5 b o (l4 b o h)
   refine ⟨_,rfl,fun g2=>?_,fun g2=>?_⟩
   ·have g2:x.isLeaf=false:=by simpa using g2
    cases x with
    | leaf i=>cases g2
    | node ln a b=>
     obtain ⟨bb,x1,x2,x3,y1,y2,y3,z1,z2,z3,pl,pr,i,rfl,hb,hl,ha',hbb⟩:=hq2
     have hb5:=(l14.trans l5) _ _ hb
     simp only [Tr.size] at e2
     refine ⟨rfl,rfl,pr,rdc hb5 10 rfl,rfl,rfl,pl,rdc hb5 9 rfl,by omega,by omega,by omega,rfl,by intro v hv; simp at hv; rcases hv with rfl | rfl <;> rfl,fun sp c' k1 k2=>?_⟩
     refine ⟨(n - 1 + 2,c',_,n2,c2,vm),nds (ts.take (n - 1)) + (2 * a.size + 1) + (2 * b.size + 1),by omega,⟨by (try dsimp only); and_intros <;> first | rfl | trivial,ts.take (n - 1)++[b,a],o++topL (.node ln a b),?_,k1,?_,(hst.le (l14.trans l5)).popPush (by omega) (by omega) (hbb.le (l14.trans l5)) (ha'.le (l14.trans l5)),fun y hy=>?_,g5,a5,?_,?_,by omega⟩⟩
     ·simp; omega
     ·dsimp only; simp only [List.length_append,List.length_take,List.length_cons,List.length_nil]; omega
     ·rcases List.mem_append.1 hy with hy | hy
      ·exact hat y hy
      ·simp only [List.mem_cons,List.not_mem_nil,or_false] at hy
       rcases hy with rfl | rfl
       ·exact hxa.2.2
       ·exact hxa.2.1
     ·rw [← e1]
      have:lnS (ts.take (n - 1)++[b,a]).reverse=a.lns.map canL++(b.lns.map canL++lnS (ts.take (n - 1)).reverse):=by
       rw [List.reverse_append]; rfl
      rw [this]
      simp only [Tr.lns,topL,List.map_cons,List.map_append,List.append_assoc,List.cons_append,List.nil_append]
     ·rw [nds_append]; simp [nds]; omega
   ·have g2:x.isLeaf=true:=by simpa using g2
    cases x with
    | node ln a b=>cases g2
    | leaf i=>
     simp only [Tr.size] at e2
     refine ⟨(n - 1,c,vs,n2,c2,vm),nds (ts.take (n - 1)),by omega,⟨by (try dsimp only); and_intros <;> first | rfl | trivial,ts.take (n - 1),o,?_,by dsimp only; omega,h3,fun i t hi=>?_,hat,by simpa [topL] using g5,a5,by simpa [Tr.lns] using e1,rfl,by omega⟩⟩
     ·simp; omega
     ·rw [List.getElem?_take] at hi
      split at hi
      ·exact (hst.le (l14.trans l5)) i t hi
      ·cases hi
  ·have g1:n=0:=by simpa using g1
   have:ts=[]:=List.length_eq_zero_iff.1 (by omega)
   subst this
   simp only [List.reverse_nil,lnS,List.append_nil] at h4
   rw [← h4]
   refine ⟨bk,us,n',c',e2,fun h=>?_,rfl,e1,hg.mono fun _ _ g=>RCL.le g hle,hpos⟩
   rcases e3 h with h | h | h
   ·exact h
   ·exact absurd rfl h.1
   ·exact h.elim
/-- The lines in order, each once. -/
def sortL (l m:List L3):Prop:=m.Perm l/\m.Pairwise fun x y=>¬ cCL y x < 0
theorem le_hideS {V:View} {P:Prop} {b:Nat} (h:P->V.H b):V.Le (V.shut.hideG P b):=fun x o g=>⟨fun hh=>by
 rcases hh with hh | hh
 ·exact g.1 hh
 ·rw [hh.2.1] at g; exact g.1 (h hh.1),g.2⟩
theorem Acts.monoB {f:FuncId} {args:Array Value} {V:View} {R R':Value->View->Prop} (h:Acts prog f args V R) (hR:∀r V',V.Le V'->(∀b,V.H b->V'.H b)->R r V'->R' r V'):Acts prog f args V R':=
 ⟨h.1,h.2.mono fun _ w' ⟨r,he,hx,hr⟩=>⟨r,he,hx,hR r _ (V.le_to w' hx) (fun _ hb=>hb) hr⟩⟩
theorem c_bsp_Lines {V:View} {p:OA} {t:Tr} (h:RT V p t) (ha:t.All Bd) (hs:t.size < 50) :
  Acts prog 116 #[.pointer p] V fun r V'=>∃q n c m,r=.slice q n c/\Lst 9 RCL V' q n (cmpt eL m)/\sortL (t.lns.map canL) m:=by
 refine vc_bsp_T_Lines p V _ ⟨fun z _=>z=(0,0,[]),⟨(0,0,[]),by and_intros <;> rfl,rfl⟩,?_⟩
 rintro z V1 l1 rfl
 dsimp only
 refine ⟨rfl,fun V2 l2 bk4 bk5 g1 g2 g3 g4 g5=>(c_bsp_Each_Lines (V:=V2.lend [bk4,vb [] V2.w.heap.size bk5]) (lb:=bk5) (RT.le (V:=V) (V':=V2.lend _) (fun b o h=>l2 b o (l1 b o h)) h) ha (by omega) g1 ⟨by simp,g2⟩).mono ?_⟩
 rintro r V3 l3 ⟨bm,vm,n,c,a1,a2,rfl,a3,a4,a5⟩
 refine ⟨bm,vm,a1,fun h=>.inl (a2 h),rfl,n,c,a3,fun hz=>?_,fun hz V9 l9 bk14 e1 e2=>?_⟩
 ·subst hz
  have hc:=a4.cap
  have hle:=a4.le
  have hlen:=a4.len
  have c0:c=0:=by simp at hc; omega
  subst c0
  have n0:n=0:=by omega
  subst n0
  have hnil:t.lns.map canL=[]:=List.length_eq_zero_iff.1 hlen.symm
  refine ⟨rfl,fun V4 l4=>c_SortFunc_nilL.mono ?_⟩
  rintro r V5 l5 rfl
  refine ⟨rfl,fun V6 l6 bk9 e1 e2=>c_CompactFunc_nilL.mono ?_⟩
  rintro r V7 l7 rfl
  refine ⟨0,[],fun h=>absurd rfl h,fun h=>absurd rfl h,none,0,0,rfl,fun V8 l8 bk13 e3=>⟨_,_,_,[],rfl,Lst.nil,?_⟩⟩
  rw [hnil]
  exact ⟨.refl _,List.Pairwise.nil⟩
 ·have a4':GR 9 RCL V9 n c vm (t.lns.map canL):=a4.mono fun _ _ g=>RCL.le g fun b o h=>l9 b o h
  have hlen:=a4'.len
  have hll:(t.lns.map canL).length < 50:=by rw [List.length_map,lns_len]; exact hs
  have hcap:=a4'.cap
  have hle:=a4'.le
  have hn0:=a5 hz
  have hc0:c≠0:=by omega
  have hmA:∀b,mA b c=some ⟨b,0,none⟩:=fun b=>by unfold mA; rw [if_neg hc0]
  rw [hmA]
  refine (c_SortFuncL (V:=V9.lend [vb vm V9.w.heap.size bk14]) (lb:=bk14) (vs:=vm) (l:=t.lns.map canL) (e1 hz) ⟨by simp [vb_ne hz],e2 hz⟩ ⟨a4'.row.le fun _ _ g=>RCL.le g fun b o h=>h,hlen,hll⟩).mono ?_
  rintro r V10 l10 ⟨rfl,vs',m,e3,sr,pm,pw⟩
  have mlen:=pm.length_eq
  have hvne:vs'≠[]:=fun e=>by
   have:=sr.row.len_le (by decide)
   rw [e,mlen,← hlen] at this
   simp at this
   omega
  refine ⟨rfl,hz,vs',hvne,e3,fun V11 l11 bk16 f1 f2=>?_⟩
  rw [hmA]
  refine Acts.monoB (c_CompactFuncL (V:=V11.lend [vb vs' V11.w.heap.size bk16]) (lb:=bk16) (vs:=vs') (l:=m) (f1 hvne) ⟨by simp [vb_ne hvne],f2 hvne⟩ (sr.le fun b o h=>l11 b o h) hle) ?_
  rintro r V12 l12 hH ⟨ws,rfl,e4,row,wl⟩
  have hk:=cmpt_len (e:=eL) (l:=m)
  refine ⟨bk16,ws,fun _=>e4,fun _=>.inr ⟨hvne,rfl⟩,some ⟨bk16,0,none⟩,(cmpt eL m).length,c,by rw [hmA],fun V13 l13 bk20 f3=>⟨_,_,_,m,rfl,?_,pm,pw⟩⟩
  exact Lst.of_mrow f3 (row.le fun _ _ g=>RCL.le g ((le_hideS fun _=>hH bk16 (f2 hvne)).trans l13)) (by decide) (by omega)
end Go.Proofs.Tryz
/- By program: the conditions of the functions, from their loaded code. -/
namespace Go.Proofs.Tryz
open Go.Eng
open Go.Value renaming int→I,pointer→P,slice→S,agg→A,bool→B,tuple→T
open Go.IntKind renaming i64→J,u64→U,u32→W
set_option maxRecDepth 100000
theorem vc_ref14_lines (a:OA) (V:View) (R:VR) (h:(a.isSome=true)/\(a.isSome=true)/\(∃w,(∃a1,addrAdd a 0=some a1/\V.at a1 (B w))/\((w=true->(Rt V R (S none 0 0)))/\(w=false->(a.isSome=true)/\(a.isSome=true)/\(∃g,∃i k l,∃m,∃n o p,∃q,∃r s t,∃c,addrAdd a 2=some c/\V.at (c.add 0) (B g)/\V.at (c.add 1) (S i k l)/\V.at (c.add 2) (B m)/\V.at (c.add 3) (S n o p)/\V.at (c.add 4) (B q)/\V.at (c.add 5) (S r s t)/\(a.isSome=true)/\(a.isSome=true)/\(∃a3,(∃a4,addrAdd a 8=some a4/\V.at a4 (P a3))/\(a.isSome=true)/\(a.isSome=true)/\(∃a5,(∃a6,addrAdd a 9=some a6/\V.at a6 (P a5))/\(Ca V 125 #[P a3] fun b3 a7=>∃a8 b b4,b3=S a8 b b4/\(∃e:List Value,a7.sl a8 e/\e.length=b * 6/\((1 + b) * 96<=140737488355328/\1<=1/\1 * 6<=([B g,S i k l,B m,S n o p,B q,S r s t]:List Value).length/\e.length=b * 6/\(∀x ∈ e,x.oneCell'=true)/\∀(b7:Nat) (b8:C->Value) (y:List Value) (u:Nat),1 + b<=u->u * 6<=(1 + b) * 6 + y.length->(Ca a7 125 #[P a5] fun b5 a9=>∃b0 d b6,b5=S b0 d b6/\(∃f:List Value,a9.sl b0 f/\f.length=d * 6/\(((1 + b) + d) * 96<=140737488355328/\1 + b<=u/\u * 6<=(([B g,S i k l,B m,S n o p,B q,S r s t]:List Value).take (1 * 6)++e++y).length/\f.length=d * 6/\(∀x ∈ f,x.oneCell'=true)/\∀(b9:Nat) (c0:C->Value) (b1:List Value) (z:Nat),(1 + b) + d<=z->z * 6<=((1 + b) + d) * 6 + b1.length->(∀a0,a9.Le a0->∀b2:Nat,(a0.blk b2 (.cells ((([B g,S i k l,B m,S n o p,B q,S r s t]:List Value).take (1 * 6)++e++y).take ((1 + b) * 6)++f++b1).toArray 163 (0,0)))->R (S (some ⟨b2,0,none⟩) ((1 + b) + d) z) a0)))))))))))))):
 Acts prog 125 #[P a] V R:=
 fd (LF:=LF0) (RF:=[1000010]) [] [] func125 h
theorem vc_ref14_Lines (a:OA) (V:View) (R:VR) (h:(Ca V 125 #[P a] fun k l=>∃b c d,k=S b c d/\(Ca l 124 #[S b c d] fun m n=>∃e f g,m=S e f g/\(Rt n R (S e f g))))):
 Acts prog 58 #[P a] V R:=
 fd (LF:=LF0) (RF:=[1000010]) [] [] func58 h
theorem vc_ref04_Canon (a:Bool) (b:OA) (c d:Nat) (e:Bool) (f:OA) (g i:Nat) (k:Bool) (l:OA) (m n:Nat) (V:View) (R:VR) (h:(Ca V 143 #[A #[B a,S b c d]] fun c1 p=>∃o,c1=I J o/\(((decide (o < (0:Int)))=true->(Ca p 220 #[A #[B a,S b c d,B e,S f g i,B k,S l m n]] fun c2 c3=>∃r,∃s t u,∃w,∃x y z,∃a0,∃a1 a2 a3,c2=A #[B r,S s t u,B w,S x y z,B a0,S a1 a2 a3]/\(Rt c3 R (T #[A #[B r,S s t u,B w,S x y z,B a0,S a1 a2 a3],B true]))))/\((decide (o < (0:Int)))=false->(((o == (0:Int))=true->(Ca p 143 #[A #[B e,S f g i]] fun c4 a5=>∃q,c4=I J q/\(((decide (q < (0:Int)))=true->(Ca a5 220 #[A #[B a,S b c d,B e,S f g i,B k,S l m n]] fun c5 c6=>∃a6,∃a7 a8 a9,∃b0,∃b1 b2 b3,∃b4,∃b5 b6 b7,c5=A #[B a6,S a7 a8 a9,B b0,S b1 b2 b3,B b4,S b5 b6 b7]/\(Rt c6 R (T #[A #[B a6,S a7 a8 a9,B b0,S b1 b2 b3,B b4,S b5 b6 b7],B true]))))/\((decide (q < (0:Int)))=false->(Rt a5 R (T #[A #[B a,S b c d,B e,S f g i,B k,S l m n],B false]))))))/\((o == (0:Int))=false->(Rt p R (T #[A #[B a,S b c d,B e,S f g i,B k,S l m n],B false])))))))):
 Acts prog 173 #[A #[B a,S b c d,B e,S f g i,B k,S l m n]] V R:=
 fd (LF:=LF0) (RF:=[1000010]) [] [] func173 h
theorem vc_ref04_Distinct (u:OA) (d w:Nat) (V:View) (R:VR) (h:(∃(a6:(Nat × Nat × (List Value) × Int)->VP) (a7:(Nat × Nat × (List Value) × Int)->Nat),(∃a3,(s5 u d w (d:Int) (none:OA) (((0:Nat)=a3.1)/\((0:Nat)=a3.2.1)/\sm 0/\((0:Int)=a3.2.2.2)/\(a3.2.2.1=[])))/\a6 a3 V)/\∀(a:Nat × Nat × (List Value) × Int) (x:View),V.Le x->a6 a x->(true=true/\(((decide (a.2.2.2 < (d:Int)))=true->(u.isSome=true)/\(0<=a.2.2.2/\a.2.2.2 < (d:Int))/\(∃c0,∃c1 c2 c3,∃c4,∃c5 c6 c7,∃c8,∃c9 d0 d1,∃z,addrAdd u (a.2.2.2.toNat * 6)=some z/\x.at (z.add 0) (B c0)/\x.at (z.add 1) (S c1 c2 c3)/\x.at (z.add 2) (B c4)/\x.at (z.add 3) (S c5 c6 c7)/\x.at (z.add 4) (B c8)/\x.at (z.add 5) (S c9 d0 d1)/\(Ca x 173 #[A #[B c0,S c1 c2 c3,B c4,S c5 c6 c7,B c8,S c9 d0 d1]] fun g8 d2=>∃e,∃f g i,∃k,∃l m n,∃o,∃p q r,∃g9,g8=T #[A #[B e,S f g i,B k,S l m n,B o,S p q r],B g9]/\(∃(b1:Int->VP) (d3:Int->Nat),(∃d4:Int,(((a.1:Nat)=a.1)/\((a.2.1:Nat)=a.2.1)/\s6 0 u d w (d:Int) a.2.2.2 (((0:Int)=d4)/\s12 a.2.2.1 e f g i k l m n o p q (sm r)))/\b1 d4 d2)/\∀(b:Int) (a4:View),d2.Le a4->b1 b a4->(true=true/\(∃b2:Bool->VP,(((decide (b < ((a.1:Nat):Int)))=true->(0<=b/\b < ((a.1:Nat):Int))/\(a.1<=a.2.1)/\(∃d5,∃d6 d7 d8,∃d9,∃e0 e1 e2,∃e3,∃e4 e5 e6,((b.toNat * 6) + 6<=a.2.2.1.length/\(a.2.2.1.drop (b.toNat * 6)).take 6=[B d5,S d6 d7 d8,B d9,S e0 e1 e2,B e3,S e4 e5 e6])/\(Ca a4 174 #[A #[B d5,S d6 d7 d8,B d9,S e0 e1 e2,B e3,S e4 e5 e6],A #[B e,S f g i,B k,S l m n,B o,S p q r]] fun i0 i1=>∃e7,i0=I J e7/\(∃e8:Bool,(((a.1:Nat)=a.1)/\((a.2.1:Nat)=a.2.1)/\s7 0 b u d w (d:Int) a.2.2.2 (((decide (e7 < (0:Int)))=e8)/\s12 a.2.2.1 e f g i k l m n o p q (sm r)))/\b2 e8 i1))))/\((decide (b < ((a.1:Nat):Int)))=false->(∃e9:Bool,(((a.1:Nat)=a.1)/\((a.2.1:Nat)=a.2.1)/\s7 0 b u d w (d:Int) a.2.2.2 ((false=e9)/\s12 a.2.2.1 e f g i k l m n o p q (sm r)))/\b2 e9 a4)))/\∀(b3:Bool) (a0:View),a4.Le a0->b2 b3 a0->(true=true/\((b3=true->(∃b4:Int,d3 b4 < d3 b/\(((a.1:Nat)=a.1)/\((a.2.1:Nat)=a.2.1)/\s6 0 u d w (d:Int) a.2.2.2 (((J.wrap (b + (1:Int)))=b4)/\s12 a.2.2.1 e f g i k l m n o p q (sm r)))/\b1 b4 a0))/\(b3=false->(∃b5:Bool->VP,(((b == ((a.1:Nat):Int))=true->(∃f0:Bool,(((a.1:Nat)=a.1)/\((a.2.1:Nat)=a.2.1)/\s7 0 b u d w (d:Int) a.2.2.2 ((true=f0)/\s12 a.2.2.1 e f g i k l m n o p q (sm r)))/\b5 f0 a0))/\((b == ((a.1:Nat):Int))=false->(0<=b/\b < ((a.1:Nat):Int))/\(a.1<=a.2.1)/\(∃f1,∃f2 f3 f4,∃f5,∃f6 f7 f8,∃f9,∃g0 g1 g2,((b.toNat * 6) + 6<=a.2.2.1.length/\(a.2.2.1.drop (b.toNat * 6)).take 6=[B f1,S f2 f3 f4,B f5,S f6 f7 f8,B f9,S g0 g1 g2])/\(Ca a0 174 #[A #[B f1,S f2 f3 f4,B f5,S f6 f7 f8,B f9,S g0 g1 g2],A #[B e,S f g i,B k,S l m n,B o,S p q r]] fun i2 i3=>∃g3,i2=I J g3/\(∃g4:Bool,(((a.1:Nat)=a.1)/\((a.2.1:Nat)=a.2.1)/\s7 0 b u d w (d:Int) a.2.2.2 (((g3 != (0:Int))=g4)/\s12 a.2.2.1 e f g i k l m n o p q (sm r)))/\b5 g4 i3)))))/\∀(b6:Bool) (a8:View),a0.Le a8->b5 b6 a8->(true=true/\((b6=true->(∀a5,a8.Le a5->∀a9:Nat,(a.2.2.1≠[]->a5.blk a9 (.cells a.2.2.1.toArray 163 (0,0)))->∀i4:C->Value,(0<=b/\b<=((a.2.1:Nat):Int))/\(0<=b/\b<=((b.toNat:Nat):Int))/\(0<=b/\b<=((a.1:Nat):Int))/\(∃t:List Value,a5.sl (slA (mA a9 a.2.1) a.2.1 b.toNat 6) t/\t.length=(a.1 - b.toNat) * 6/\((1 + (a.1 - b.toNat)) * 96<=140737488355328/\1<=1/\1 * 6<=([B e,S f g i,B k,S l m n,B o,S p q r]:List Value).length/\t.length=(a.1 - b.toNat) * 6/\(∀b7 ∈ t,b7.oneCell'=true)/\∀(i5:Nat) (i6:C->Value) (y:List Value) (g5:Nat),1 + (a.1 - b.toNat)<=g5->g5 * 6<=(1 + (a.1 - b.toNat)) * 6 + y.length->(∃b8:List Value,a5.sl (mA a9 a.2.1) b8/\b8.length=b.toNat * 6/\b.toNat<=b.toNat/\((mA a9 a.2.1).isNone=true->b.toNat=0)/\((b.toNat + ((rowTake (([B e,S f g i,B k,S l m n,B o,S p q r]:List Value).take (1 * 6)++t++y) 0 ((1 + (a.1 - b.toNat)) * 6)).length / 6)) * 96<=140737488355328/\b.toNat < b.toNat + ((rowTake (([B e,S f g i,B k,S l m n,B o,S p q r]:List Value).take (1 * 6)++t++y) 0 ((1 + (a.1 - b.toNat)) * 6)).length / 6)/\(rowTake (([B e,S f g i,B k,S l m n,B o,S p q r]:List Value).take (1 * 6)++t++y) 0 ((1 + (a.1 - b.toNat)) * 6)).length=((rowTake (([B e,S f g i,B k,S l m n,B o,S p q r]:List Value).take (1 * 6)++t++y) 0 ((1 + (a.1 - b.toNat)) * 6)).length / 6) * 6/\(∀b7 ∈ (rowTake (([B e,S f g i,B k,S l m n,B o,S p q r]:List Value).take (1 * 6)++t++y) 0 ((1 + (a.1 - b.toNat)) * 6)),b7.oneCell'=true)/\∀(g6:List Value) (b0:Nat),b.toNat + ((rowTake (([B e,S f g i,B k,S l m n,B o,S p q r]:List Value).take (1 * 6)++t++y) 0 ((1 + (a.1 - b.toNat)) * 6)).length / 6)<=b0->b0 * 6<=(b.toNat + ((rowTake (([B e,S f g i,B k,S l m n,B o,S p q r]:List Value).take (1 * 6)++t++y) 0 ((1 + (a.1 - b.toNat)) * 6)).length / 6)) * 6 + g6.length->(∃a1:Nat × Nat × (List Value) × Int,a7 a1 < a7 a/\(s5 u d w (d:Int) 0 (((b.toNat + ((rowTake (([B e,S f g i,B k,S l m n,B o,S p q r]:List Value).take (1 * 6)++t++y) 0 ((1 + (a.1 - b.toNat)) * 6)).length / 6):Nat)=a1.1)/\((b0:Nat)=a1.2.1)/\((b0:Nat)≠0)/\((J.wrap (a.2.2.2 + (1:Int)))=a1.2.2.2)/\((b8++(rowTake (([B e,S f g i,B k,S l m n,B o,S p q r]:List Value).take (1 * 6)++t++y) 0 ((1 + (a.1 - b.toNat)) * 6))++g6)=a1.2.2.1)))/\a6 a1 a5)))))))/\(b6=false->(∃a2:Nat × Nat × (List Value) × Int,a7 a2 < a7 a/\(s4 u d w (d:Int) (((a.1:Nat)=a2.1)/\((a.2.1:Nat)=a2.2.1)/\((J.wrap (a.2.2.2 + (1:Int)))=a2.2.2.2)/\(a.2.2.1=a2.2.2.1)))/\a6 a2 a8))))))))))))))/\((decide (a.2.2.2 < (d:Int)))=false->(∀b9,x.Le b9->∀g7:Nat,(a.2.2.1≠[]->b9.blk g7 (.cells a.2.2.1.toArray 163 (0,0)))->R (S (mA g7 a.2.1) a.1 a.2.1) b9)))))):
 Acts prog 124 #[S u d w] V R:=
 fd (LF:=LF0) (RF:=[1000010,11000003]) [(3,⟨Nat × Nat × (List Value) × Int,false,[7,8],[],fun s=>[(3,.c (.msl 3 s.1 s.2.1)),(9,.c (.v (I J s.2.2.2)))],fun s=>[(3,⟨.mrow s.2.2.1,163⟩)]⟩),(7,⟨Int,false,[3,5,7,8,9],[3,5],fun s=>[(6,.c (.v (I J s)))],fun s=>[]⟩)] [(600007,⟨Bool,false,[3,5,6,7,8,9],[3,5],fun s=>[(30,.c (.v (B s)))],fun s=>[]⟩),(600009,⟨Bool,false,[3,5,6,7,8,9],[3,5],fun s=>[(45,.c (.v (B s)))],fun s=>[]⟩)] func124 h
theorem vc_ref04_ToLs (g:OA) (d y:Nat) (V:View) (R:VR) (h:(∃(z:(Nat × Nat × (List Value) × Int)->VP) (a2:(Nat × Nat × (List Value) × Int)->Nat),(∃i,(s5 g d y (d:Int) (none:OA) (((0:Nat)=i.1)/\((0:Nat)=i.2.1)/\sm 0/\((0:Int)=i.2.2.2)/\(i.2.2.1=[])))/\z i V)/\∀(a:Nat × Nat × (List Value) × Int) (b:View),V.Le b->z a b->(true=true/\(((decide (a.2.2.2 < (d:Int)))=true->(g.isSome=true)/\(0<=a.2.2.2/\a.2.2.2 < (d:Int))/\(∃a3,∃a4 a5 a6,∃a7,∃a8 a9 b0,∃b1,∃b2 b3 b4,∃e,addrAdd g (a.2.2.2.toNat * 6)=some e/\b.at (e.add 0) (B a3)/\b.at (e.add 1) (S a4 a5 a6)/\b.at (e.add 2) (B a7)/\b.at (e.add 3) (S a8 a9 b0)/\b.at (e.add 4) (B b1)/\b.at (e.add 5) (S b2 b3 b4)/\(Ca b 122 #[A #[B a3,S a4 a5 a6,B a7,S a8 a9 b0,B b1,S b2 b3 b4]] fun b7 b8=>∃l,∃m n o,∃p,∃q r s,∃t,∃u w x,b7=A #[B l,S m n o,B p,S q r s,B t,S u w x]/\((a.1 + 1) * 96<=140737488355328/\a.1<=a.2.1/\a.2.1 * 6<=a.2.2.1.length/\([B l,S m n o,B p,S q r s,B t,S u w x]:List Value).length=1 * 6/\(∀b9 ∈ ([B l,S m n o,B p,S q r s,B t,S u w x]:List Value),b9.oneCell'=true)/\∀(b5:List Value) (a0:Nat),a.1 + 1<=a0->a0 * 6<=(a.1 + 1) * 6 + b5.length->(∃f:Nat × Nat × (List Value) × Int,a2 f < a2 a/\(s4 g d y (d:Int) (((a.1 + 1:Nat)=f.1)/\((a0:Nat)=f.2.1)/\((J.wrap (a.2.2.2 + (1:Int)))=f.2.2.2)/\((a.2.2.1.take (a.1 * 6)++([B l,S m n o,B p,S q r s,B t,S u w x]:List Value)++b5)=f.2.2.1)))/\z f b8)))))/\((decide (a.2.2.2 < (d:Int)))=false->(∀a1,b.Le a1->∀b6:Nat,(a.2.2.1≠[]->a1.blk b6 (.cells a.2.2.1.toArray 169 (0,0)))->R (S (mA b6 a.2.1) a.1 a.2.1) a1)))))):
 Acts prog 57 #[S g d y] V R:=
 fd (LF:=LF0) (RF:=[1000010]) [(3,⟨Nat × Nat × (List Value) × Int,false,[6,7],[],fun k=>[(3,.c (.msl 3 k.1 k.2.1)),(8,.c (.v (I J k.2.2.2)))],fun k=>[(3,⟨.mrow k.2.2.1,169⟩)]⟩)] [] func57 h
theorem vc_ref04_SameLs (i:OA) (d l:Nat) (k:OA) (g m:Nat) (V:View) (R:VR) (h:((((d:Int) != (g:Int))=true->(Rt V R (B false)))/\(((d:Int) != (g:Int))=false->(∃(n:Int->VP) (r:Int->Nat),(∃s:Int,(s7 i d l k g m (d:Int) (((0:Int)=s)))/\n s V)/\∀(b:Int) (a:View),V.Le a->n b a->(true=true/\(((decide (b < (d:Int)))=true->(i.isSome=true)/\(0<=b/\b < (d:Int))/\(∃t,∃u w x,∃y,∃z a0 a1,∃a2,∃a3 a4 a5,∃e,addrAdd i (b.toNat * 6)=some e/\a.at (e.add 0) (B t)/\a.at (e.add 1) (S u w x)/\a.at (e.add 2) (B y)/\a.at (e.add 3) (S z a0 a1)/\a.at (e.add 4) (B a2)/\a.at (e.add 5) (S a3 a4 a5)/\(k.isSome=true)/\(0<=b/\b < (g:Int))/\(∃a6,∃a7 a8 a9,∃b0,∃b1 b2 b3,∃b4,∃b5 b6 b7,∃f,addrAdd k (b.toNat * 6)=some f/\a.at (f.add 0) (B a6)/\a.at (f.add 1) (S a7 a8 a9)/\a.at (f.add 2) (B b0)/\a.at (f.add 3) (S b1 b2 b3)/\a.at (f.add 4) (B b4)/\a.at (f.add 5) (S b5 b6 b7)/\(Ca a 123 #[A #[B t,S u w x,B y,S z a0 a1,B a2,S a3 a4 a5],A #[B a6,S a7 a8 a9,B b0,S b1 b2 b3,B b4,S b5 b6 b7]] fun c2 b8=>∃o,c2=B o/\(((!o)=true->(Rt b8 R (B false)))/\((!o)=false->(∃p:Int,r p < r b/\(s7 i d l k g m (d:Int) (((J.wrap (b + (1:Int)))=p)))/\n p b8)))))))/\((decide (b < (d:Int)))=false->(Rt a R (B true))))))))):
 Acts prog 56 #[S i d l,S k g m] V R:=
 fd (LF:=LF0) (RF:=[1000010]) [(4,⟨Int,false,[0,1,12],[],fun c1=>[(13,.c (.v (I J c1)))],fun c1=>[]⟩)] [] func56 h
end Go.Proofs.Tryz
/- Contracts of the reference: the lines of a tree, each once. -/
namespace Go.Proofs.Tryz
open Go.Eng Go.Big
/-- A line of integers, as an element of a list. -/
def RLv (V:View) (v:Value) (l:L3):Prop:=RL V v l.1 l.2.1 l.2.2
theorem RLv.le {V V':View} {v:Value} {l:L3} (h:RLv V v l) (e:V.Le V'):RLv V' v l:=RL.le h e
theorem rlv_shape {V:View} {v:Value} {l:L3} (h:RLv V v l):∃(b1:Bool) (p1:OA) (n1 c1:Nat) (b2:Bool) (p2:OA) (n2 c2:Nat) (b3:Bool) (p3:OA) (n3 c3:Nat),v=.agg #[.bool b1,.slice p1 n1 c1,.bool b2,.slice p2 n2 c2,.bool b3,.slice p3 n3 c3]:=by
 obtain ⟨_,_,_,_,_,_,_,_,_,e,-⟩:=h; exact ⟨_,_,_,_,_,_,_,_,_,_,_,_,e⟩
theorem rlv_one {V:View} {xs:List Value} {l:L3} (h:RLv V (.agg (List.toArray xs)) l):∀v ∈ xs,v.oneCell'=true:=by
 obtain ⟨_,_,_,_,_,_,_,_,_,_,_,_,e⟩:=rlv_shape h
 have e:=congrArg Array.toList (Value.agg.inj e)
 dsimp only at e
 subst e
 intro v hm
 simp only [List.mem_cons,List.not_mem_nil,or_false] at hm
 rcases hm with rfl | rfl | rfl | rfl | rfl | rfl <;> rfl
theorem one6 {b:Bool} {p:OA} {n c:Nat} {b':Bool} {p':OA} {n' c':Nat} {b'':Bool} {p'':OA} {n'' c'':Nat}:∀v ∈ ([.bool b,.slice p n c,.bool b',.slice p' n' c',.bool b'',.slice p'' n'' c'']:List Value),v.oneCell'=true:=by
 intro v hm
 simp only [List.mem_cons,List.not_mem_nil,or_false] at hm
 rcases hm with rfl | rfl | rfl | rfl | rfl | rfl <;> rfl
theorem c_ref14_lines:∀(t:Tr) {V:View} {p:OA},RW V p t->t.size<=1000000->Acts prog 125 #[.pointer p] V fun r V'=>∃q n c,r=.slice q n c/\Lst 6 RLv V' q n t.lns
 | .leaf i,V,p,h,hs=>by
  obtain ⟨s,e0,-⟩:=rw_leaf h
  exact vc_ref14_lines p V _ ⟨s,s,_,e0,fun _ V1 l1=>⟨_,_,_,rfl,Lst.nil⟩,(fun h=>nomatch h)⟩
 | .node ln a b,V,p,h,hs=>by
  have h0:=h
  obtain ⟨bb,i,b1,p1,n1,c1,b2,p2,n2,c2,b3,p3,n3,c3,pl,pr,rfl,hb,hl,ha,hbb⟩:=h
  have hat:∀j v,([.bool false,.bool i,.bool b1,.slice p1 n1 c1,.bool b2,.slice p2 n2 c2,.bool b3,.slice p3 n3 c3,.pointer pl,.pointer pr]:List Value)[j]?=some v->V.at ((⟨bb,0,none⟩:Addr).add j) v:=by
   intro j v hv; rw [add_zero']; exact blk_at (xs:=[_,_,_,_,_,_,_,_,_,_]) hb hv
  have ha2:∀j v,([.bool b1,.slice p1 n1 c1,.bool b2,.slice p2 n2 c2,.bool b3,.slice p3 n3 c3]:List Value)[j]?=some v->V.at (((⟨bb,0,none⟩:Addr).add 2).add j) v:=by
   intro j v hv
   rw [addadd]
   refine hat (2 + j) v ?_
   have hj:j < 6:=(List.getElem?_eq_some_iff.1 hv).1
   match j,hj,hv with
   | 0,_,h=>exact h
   | 1,_,h=>exact h
   | 2,_,h=>exact h
   | 3,_,h=>exact h
   | 4,_,h=>exact h
   | 5,_,h=>exact h
  simp only [Tr.size] at hs
  have la:=lns_len a
  have lb:=lns_len b
  refine vc_ref14_lines _ V _ ⟨rfl,rfl,false,rdc hb 0 rfl,(fun h=>nomatch h),fun _=>⟨rfl,rfl,_,_,_,_,_,_,_,_,_,_,_,_,(⟨bb,0,none⟩:Addr).add 2,rfl,ha2 0 _ rfl,ha2 1 _ rfl,ha2 2 _ rfl,ha2 3 _ rfl,ha2 4 _ rfl,ha2 5 _ rfl,rfl,rfl,pl,rdc hb 8 rfl,rfl,rfl,pr,rdc hb 9 rfl,fun V2 l2=>(c_ref14_lines a (ha.le l2) (by omega)).mono ?_⟩⟩
  rintro r V3 l3 ⟨q,n,c,rfl,g⟩
  obtain rfl:=g.len
  obtain ⟨xs,x1,x2,x3⟩:=lst_cells g (by decide)
  have oc:∀v ∈ xs,v.oneCell'=true:=fun v hv=>by
   obtain ⟨m,hm,rfl⟩:=List.mem_iff_getElem.1 hv
   exact row_one_cell x3 (by decide) (fun _ _=>rlv_one) (by omega) (List.getElem?_eq_getElem hm)
  have r1:Row 6 RLv V3 ([.bool b1,.slice p1 n1 c1,.bool b2,.slice p2 n2 c2,.bool b3,.slice p3 n3 c3]:List Value) [ln]:=row_one rfl (hl.le (l2.trans l3))
  refine ⟨_,_,_,rfl,xs,x1,x2,by omega,Nat.le_refl _,Nat.le_refl 6,x2,oc,fun bk J sp c' h1 h2 V4 l4=>(c_ref14_lines b (hbb.le (l2.trans (l3.trans l4))) (by omega)).mono ?_⟩
  rintro r V5 l5 ⟨q',n',c'',rfl,g'⟩
  obtain rfl:=g'.len
  obtain ⟨ys,y1,y2,y3⟩:=lst_cells g' (by decide)
  have oc':∀v ∈ ys,v.oneCell'=true:=fun v hv=>by
   obtain ⟨m,hm,rfl⟩:=List.mem_iff_getElem.1 hv
   exact row_one_cell y3 (by decide) (fun _ _=>rlv_one) (by omega) (List.getElem?_eq_getElem hm)
  have r2:=row_append (sp:=sp) r1 x3 (by decide)
  have hl2:([ln]++a.lns).length=1 + a.lns.length:=by simp; omega
  have r3:=row_append (sp:=[]) (r2.le fun _ _ g=>RLv.le g (l4.trans l5)) y3 (by decide)
  rw [hl2] at r3
  refine ⟨_,_,_,rfl,ys,y1,y2,by omega,h1,?_,y2,oc',fun bk2 J2 sp2 c3' h3 h4 V6 l6 bk3 hbk=>⟨_,_,_,rfl,?_⟩⟩
  ·simp only [List.length_append,List.length_take,List.length_cons,List.length_nil,x2]
   omega
  ·have r4:=row_append (sp:=sp2) (r2.le fun _ _ g=>RLv.le g (l4.trans l5)) y3 (by decide)
   rw [hl2] at r4
   have:=Lst.of_row hbk (r4.le fun _ _ g=>RLv.le g l6)
   have hl3:([ln]++a.lns++b.lns).length=1 + a.lns.length + b.lns.length:=by rw [List.length_append,hl2]
   rw [hl3] at this
   exact this
end Go.Proofs.Tryz
/- Plain: lines in order, each once. -/
namespace Go.Proofs.Tryz
open Go.Eng Go.Big
/-- x put into a list, each line once. -/
def insL (x:L3):List L3->List L3
 | []=>[x]
 | y :: r=>if cmpL y x < 0 then y :: insL x r else if y=x then y :: r else x :: y :: r
theorem insL_at {x:L3}:∀(o:List L3) (k:Nat),k<=o.length->(∀j (h:j < o.length),j < k->cmpL o[j] x < 0)->(∀h:k < o.length,¬ cmpL o[k] x < 0) ->
  insL x o=if (∃h:k < o.length,o[k]=x) then o else o.take k++x :: o.drop k:=by
 intro o
 induction o with
 | nil=>
  intro k hk _ _
  obtain rfl:k=0:=by simpa using hk
  simp [insL]
 | cons y r ih=>
  intro k hk hlt hge
  cases k with
  | zero=>
   have h0:¬ cmpL y x < 0:=hge (by simp)
   unfold insL
   rw [if_neg h0]
   by_cases e:y=x
   ·rw [if_pos e,if_pos ⟨by simp,e⟩]
   ·rw [if_neg e,if_neg (by rintro ⟨_,h⟩; exact e h)]
    rfl
  | succ k=>
   have h0:cmpL y x < 0:=hlt 0 (by simp) (by omega)
   unfold insL
   rw [if_pos h0,ih k (by simpa using hk) (fun j h hj=>hlt (j + 1) (by simpa using h) (by omega)) (fun h=>hge (by simpa using h))]
   by_cases e:∃h:k < r.length,r[k]=x
   ·obtain ⟨h1,h2⟩:=e
    rw [if_pos ⟨h1,h2⟩,if_pos ⟨by simpa using h1,h2⟩]
   ·rw [if_neg e,if_neg (by rintro ⟨h1,h2⟩; exact e ⟨by simpa using h1,h2⟩)]
    rfl
def distL (l:List L3):List L3:=l.foldl (fun o x=>insL (canL x) o) []
theorem distL_succ {l:List L3} {i:Nat} (h:i < l.length):distL (l.take (i + 1))=insL (canL l[i]) (distL (l.take i)):=by
 unfold distL
 rw [List.take_add_one,List.getElem?_eq_getElem h,List.foldl_append]
 rfl
theorem insL_len (x:L3):∀o:List L3,(insL x o).length<=o.length + 1
 | []=>by simp [insL]
 | y :: r=>by
  have:=insL_len x r
  unfold insL
  split
  ·simp; omega
  ·split <;> simp
theorem distL_len (l:List L3):(distL l).length<=l.length:=by
 have:∀(l o:List L3),(l.foldl (fun o x=>insL (canL x) o) o).length<=o.length + l.length:=by
  intro l
  induction l with
  | nil=>intro o; simp
  | cons x r ih=>
   intro o
   have h1:=ih (insL (canL x) o)
   have h2:=insL_len (canL x) o
   simp only [List.foldl_cons,List.length_cons]
   omega
 have:=this l []
 simpa [distL] using this
def ltL (a b:L3):Prop:=cmpL a b < 0
theorem lt_tr {a b c:L3} (h:ltL a b) (h':ltL b c):ltL a c:=by unfold ltL at *; rw [cmpL_lt] at *; omega
theorem lt_as {a b:L3} (h:ltL a b) (h':ltL b a):False:=by unfold ltL at *; rw [cmpL_lt] at *; omega
theorem lt_ir {a:L3} (h:ltL a a):False:=lt_as h h
theorem lt_or {a b:L3} (h:¬ ltL a b) (hne:a≠b):ltL b a:=by
 have:¬ (a.1=b.1/\a.2.1=b.2.1/\a.2.2=b.2.2):=fun ⟨e1,e2,e3⟩=>hne (Prod.ext e1 (Prod.ext e2 e3))
 unfold ltL at *
 rw [cmpL_lt] at *
 omega
theorem asc_eq:∀{l m:List L3},l.Pairwise ltL->m.Pairwise ltL->(∀x,x ∈ l↔x ∈ m)->l=m
 | [],[],_,_,_=>rfl
 | [],b :: m,_,_,h=>by have:=(h b).2 (by simp); cases this
 | a :: l,[],_,_,h=>by have:=(h a).1 (by simp); cases this
 | a :: l,b :: m,h1,h2,h=>by
  obtain ⟨p1,p2⟩:=List.pairwise_cons.1 h1
  obtain ⟨q1,q2⟩:=List.pairwise_cons.1 h2
  have e:a=b:=by
   rcases List.mem_cons.1 ((h a).1 (by simp)) with e | e
   ·exact e
   ·rcases List.mem_cons.1 ((h b).2 (by simp)) with e' | e'
    ·exact e'.symm
    ·exact (lt_as (q1 a e) (p1 b e')).elim
  subst e
  rw [asc_eq p2 q2 fun x=>⟨fun hx=>?_,fun hx=>?_⟩]
  ·rcases List.mem_cons.1 ((h x).1 (List.mem_cons_of_mem _ hx)) with rfl | h'
   ·exact (lt_ir (p1 _ hx)).elim
   ·exact h'
  ·rcases List.mem_cons.1 ((h x).2 (List.mem_cons_of_mem _ hx)) with rfl | h'
   ·exact (lt_ir (q1 _ hx)).elim
   ·exact h'
theorem insL_mem {x y:L3}:∀{o:List L3},y ∈ insL x o↔y=x \/ y ∈ o
 | []=>by simp [insL]
 | z :: r=>by
  unfold insL
  split
  ·simp only [List.mem_cons,insL_mem (o:=r)]
   constructor
   ·rintro (h | h | h) <;> simp [h]
   ·rintro (h | h | h) <;> simp [h]
  ·split
   ·rename_i e; subst e; simp
   ·simp
theorem insL_asc {x:L3}:∀{o:List L3},o.Pairwise ltL->(insL x o).Pairwise ltL
 | [],_=>List.pairwise_singleton _ _
 | z :: r,h=>by
  obtain ⟨h1,h2⟩:=List.pairwise_cons.1 h
  unfold insL
  split
  ·rename_i hz
   refine List.pairwise_cons.2 ⟨fun y hy=>?_,insL_asc h2⟩
   rcases insL_mem.1 hy with rfl | hy
   ·exact hz
   ·exact h1 y hy
  ·rename_i hz
   split
   ·exact h
   ·rename_i hne
    have hx:ltL x z:=lt_or hz hne
    refine List.pairwise_cons.2 ⟨fun y hy=>?_,h⟩
    rcases List.mem_cons.1 hy with rfl | hy
    ·exact hx
    ·exact lt_tr hx (h1 y hy)
theorem distL_spec (l:List L3):(distL l).Pairwise ltL/\∀x,x ∈ distL l↔x ∈ l.map canL:=by
 have:∀(l o:List L3),o.Pairwise ltL->(l.foldl (fun o x=>insL (canL x) o) o).Pairwise ltL/\∀x,x ∈ l.foldl (fun o x=>insL (canL x) o) o↔x ∈ o \/ x ∈ l.map canL:=by
  intro l
  induction l with
  | nil=>intro o h; exact ⟨h,fun x=>by simp⟩
  | cons y r ih=>
   intro o h
   obtain ⟨h1,h2⟩:=ih (insL (canL y) o) (insL_asc h)
   refine ⟨h1,fun x=>?_⟩
   rw [List.foldl_cons,h2 x,insL_mem,List.map_cons,List.mem_cons]
   constructor
   ·rintro ((h | h) | h) <;> simp [h]
   ·rintro (h | h | h) <;> simp [h]
 obtain ⟨h1,h2⟩:=this l [] List.Pairwise.nil
 exact ⟨h1,fun x=>by rw [distL,h2 x]; simp⟩
theorem cptF_asc:∀{r:List L3} {p:L3},(p :: r).Pairwise (fun x y=>¬ cCL y x < 0)->(cptF eL p r).Pairwise ltL/\(∀x ∈ cptF eL p r,ltL p x)/\∀x,x ∈ p :: cptF eL p r↔x ∈ p :: r
 | [],p,_=>⟨List.Pairwise.nil,(fun x h=>by cases h),fun x=>Iff.rfl⟩
 | a :: r,p,h=>by
  obtain ⟨h1,h2⟩:=List.pairwise_cons.1 h
  obtain ⟨i1,i2,i3⟩:=cptF_asc h2
  unfold cptF
  by_cases e:a=p
  ·subst e
   have:eL a a=true:=by simp [eL]
   rw [if_pos this]
   refine ⟨i1,i2,fun x=>?_⟩
   rw [i3 x]; simp
  ·have:eL a p=false:=by simp [eL,e]
   rw [this]
   have hpa:ltL p a:=lt_or (h1 a (by simp)) e
   refine ⟨List.pairwise_cons.2 ⟨i2,i1⟩,fun x hx=>?_,fun x=>?_⟩
   ·rcases List.mem_cons.1 hx with rfl | hx
    ·exact hpa
    ·exact lt_tr hpa (i2 x hx)
   ·have:=i3 x
    show x ∈ p :: a :: cptF eL a r↔x ∈ p :: a :: r
    rw [List.mem_cons,this,← List.mem_cons]
theorem cmpt_asc {m:List L3} (h:m.Pairwise (fun x y=>¬ cCL y x < 0)):(cmpt eL m).Pairwise ltL/\∀x,x ∈ cmpt eL m↔x ∈ m:=by
 cases m with
 | nil=>exact ⟨List.Pairwise.nil,fun x=>Iff.rfl⟩
 | cons p r=>
  obtain ⟨h1,h2,h3⟩:=cptF_asc h
  exact ⟨List.pairwise_cons.2 ⟨h2,h1⟩,h3⟩
theorem lines_eq {l m:List L3} (h:sortL (l.map canL) m):cmpt eL m=distL l:=by
 obtain ⟨h1,h2⟩:=cmpt_asc h.2
 obtain ⟨h3,h4⟩:=distL_spec l
 exact asc_eq h1 h3 fun x=>by rw [h2 x,h4 x]; exact h.1.mem_iff
end Go.Proofs.Tryz
/- Contracts of the reference: canonical orientation, Distinct, ToLs, SameLs; the lines of a tree of package api. -/
namespace Go.Proofs.Tryz
open Go.Eng Go.Big
theorem c_ref04_Canon {V:View} {v:Value} {l:L3} (h:RLv V v l):Acts prog 173 #[v] V fun r V'=>∃w b,r=.tuple #[w,.bool b]/\RLv V' w (canL l):=by
 have h0:=h
 obtain ⟨p1,n1,c1,p2,n2,c2,p3,n3,c3,rfl,h1,h2,h3⟩:=h
 have rev:∀(V3:View),V.Le V3->(l.1 < 0 \/ l.1=0/\l.2.1 < 0)->Acts prog 220 #[.agg #[.bool (decide (l.1 < 0)),.slice p1 n1 c1,.bool (decide (l.2.1 < 0)),.slice p2 n2 c2,.bool (decide (l.2.2 < 0)),.slice p3 n3 c3]] V3 fun r V'=>RLv V' r (canL l):=fun V3 l3 hc=>by
  refine (c_ref04_Rev (a:=l.1) (b:=l.2.1) (c:=l.2.2) (h0.le l3)).mono ?_
  rintro r V4 l4 g
  unfold canL
  rw [if_pos hc]
  exact g
 refine vc_ref04_Canon _ _ _ _ _ _ _ _ _ _ _ _ V _ fun V1 l1=>(c_num_Sign l.1 (h1.le l1)).mono ?_
 rintro r V2 l2 rfl
 have L2:=l1.trans l2
 refine ⟨_,rfl,fun hc V3 l3=>(rev V3 (L2.trans l3) (.inl (Int.sign_neg_iff.1 (of_decide_eq_true hc)))).mono ?_,fun hc=>⟨fun h0' V6 l6=>(c_num_Sign l.2.1 (h2.le (L2.trans l6))).mono ?_,fun hne V12 l12=>?_⟩⟩
 ·rintro r V4 l4 g
  have g0:=g
  obtain ⟨_,_,_,_,_,_,_,_,_,_,_,_,rfl⟩:=rlv_shape g
  exact ⟨_,_,_,_,_,_,_,_,_,_,_,_,rfl,fun V5 l5=>⟨_,_,rfl,g0.le l5⟩⟩
 ·have hz:l.1=0:=Int.sign_eq_zero_iff_zero.1 (by simpa using h0')
  rintro r V7 l7 rfl
  have L7:=L2.trans (l6.trans l7)
  refine ⟨_,rfl,fun hd V8 l8=>(rev V8 (L7.trans l8) (.inr ⟨hz,Int.sign_neg_iff.1 (of_decide_eq_true hd)⟩)).mono ?_,fun hd V11 l11=>⟨_,_,rfl,?_⟩⟩
  ·rintro r V9 l9 g
   have g0:=g
   obtain ⟨_,_,_,_,_,_,_,_,_,_,_,_,rfl⟩:=rlv_shape g
   exact ⟨_,_,_,_,_,_,_,_,_,_,_,_,rfl,fun V10 l10=>⟨_,_,rfl,g0.le l10⟩⟩
  ·have hd:=of_decide_eq_false hd
   unfold canL
   rw [if_neg fun h=>hd (Int.sign_neg_iff.2 (h.elim (fun h=>by omega) (·.2)))]
   exact h0.le (L7.trans l11)
 ·have hc:=of_decide_eq_false hc
  have hne:¬ l.1=0:=fun e=>by rw [e] at hne; simp at hne
  refine ⟨_,_,rfl,?_⟩
  unfold canL
  rw [if_neg fun h=>h.elim (fun h=>hc (Int.sign_neg_iff.2 h)) (fun h=>hne h.1)]
  exact h0.le (L2.trans l12)
theorem row_rl {V:View} {vs:List Value} {ls:List L3} (h:Row 6 RLv V vs ls) {i:Nat} (hi:i < ls.length):∃b1 p1 n1 c1 b2 p2 n2 c2 b3 p3 n3 c3,i * 6 + 6<=vs.length/\(vs.drop (i * 6)).take 6=[Value.bool b1,.slice p1 n1 c1,.bool b2,.slice p2 n2 c2,.bool b3,.slice p3 n3 c3] /\
  RLv V (.agg #[.bool b1,.slice p1 n1 c1,.bool b2,.slice p2 n2 c2,.bool b3,.slice p3 n3 c3]) ls[i]:=by
 obtain ⟨xs,h1,h2,h3⟩:=h.at_ i hi
 have hl:=h.len_le (by decide)
 have h20:=h2
 obtain ⟨_,_,_,_,_,_,_,_,_,_,_,_,e⟩:=rlv_shape h2
 have e:=congrArg Array.toList (Value.agg.inj e)
 dsimp only at e
 subst e
 refine ⟨_,_,_,_,_,_,_,_,_,_,_,_,by omega,?_,h20⟩
 apply List.ext_getElem?
 intro j
 rw [List.getElem?_take]
 split
 ·rename_i hj
  rw [List.getElem?_drop]
  exact h3 j _ (List.getElem?_eq_getElem (by show j < 6; omega)) ▸ (List.getElem?_eq_getElem (by show j < 6; omega)).symm
 ·rename_i hj
  rw [List.getElem?_eq_none (by show 6<=j; omega)]
set_option maxHeartbeats 1000000 in
theorem c_ref04_Distinct {V:View} {p:OA} {n c:Nat} {ls:List L3} (h:Lst 6 RLv V p n ls) (hn:ls.length < 100000000) (hs:∀l ∈ ls,Bd l) :
  Acts prog 124 #[.slice p n c] V fun r V'=>∃q m e,r=.slice q m e/\Lst 6 RLv V' q m (distL ls):=by
 obtain rfl:=h.len
 refine vc_ref04_Distinct p _ c V _ ⟨fun z V'=>∃i:Nat,z.2.2.2=(i:Int)/\i<=ls.length/\GR 6 RLv V' z.1 z.2.1 z.2.2.1 (distL (ls.take i)),fun z=>ls.length - z.2.2.2.toNat,
  ⟨(0,0,[],0),by and_intros <;> rfl,0,rfl,Nat.zero_le _,GR.nil⟩,?_⟩
 rintro ⟨w1,w2,us,z4⟩ V1 l1 ⟨i,e4,ile,hg⟩
 dsimp only at e4 hg
 subst e4
 have g1:=hg.len
 have fc:=hg.le
 have fv:=hg.cap
 have fx:=hg.row
 refine ⟨rfl,fun hlt=>?_,fun hlt V13 l13 bk hb=>?_⟩
 rotate_left
 ·have hlt:¬ (i:Int) < ls.length:=of_decide_eq_false hlt
  obtain rfl:i=ls.length:=by omega
  rw [List.take_length] at g1 fx
  subst g1
  exact ⟨_,_,_,rfl,Lst.of_mrow hb (fx.le fun _ _ g=>RLv.le g l13) (by decide) fc⟩
 have hlt:(i:Int) < ls.length:=of_decide_eq_true hlt
 have hi:i < ls.length:=by omega
 have w:i64.wrap ((i:Int) + 1)=((i + 1:Nat):Int):=by rw [i64w (by omega)]; rfl
 dsimp only
 rw [Int.toNat_natCast,w]
 obtain ⟨ad,ha,xs,-,hf,hat⟩:=(h.le l1 fun _ _ g=>RLv.le g l1).at_ i hi
 have hf0:=hf
 obtain ⟨_,_,_,_,_,_,_,_,_,_,_,_,ex⟩:=rlv_shape hf
 have ex:=congrArg Array.toList (Value.agg.inj ex)
 dsimp only at ex
 subst ex
 have hO':=distL_succ hi
 have hss:Bd (canL ls[i]):=(hs _ (List.getElem_mem hi)).can
 have hOl:(distL (ls.take i)).length < 100000000:=by
  have:=distL_len (ls.take i)
  rw [List.length_take] at this
  omega
 have hOm:∀q ∈ distL (ls.take i),Bd q:=fun q hq=>by
  obtain ⟨y,hy,rfl⟩:=List.mem_map.1 ((distL_spec _).2 q |>.1 hq)
  exact (hs y (List.mem_of_mem_take hy)).can
 clear hg
 generalize distL (ls.take i)=O at *
 refine ⟨isSome_addr ha,⟨by omega,by omega⟩,_,_,_,_,_,_,_,_,_,_,_,_,ad,ha,hat 0 _ rfl,hat 1 _ rfl,hat 2 _ rfl,hat 3 _ rfl,hat 4 _ rfl,hat 5 _ rfl,fun V2 l2=>(c_ref04_Canon (hf0.le l2)).mono ?_⟩
 generalize canL ls[i]=x at *
 rintro r V3 l3 ⟨wv,bc,rfl,hq⟩
 have hq0:=hq
 obtain ⟨eb,ep,en,ec,fb,fp,fn,fe,gb,gp,gn,gc,rfl⟩:=rlv_shape hq
 refine ⟨_,_,_,_,_,_,_,_,_,_,_,_,_,rfl,fun z _=>∃j:Nat,z=(j:Int)/\j<=O.length/\∀(i':Nat) (h:i' < O.length),i' < j->cmpL O[i'] x < 0,fun z=>O.length - z.toNat,⟨0,by and_intros <;> rfl,0,rfl,Nat.zero_le _,fun i' _ h=>absurd h (Nat.not_lt_zero i')⟩,?_⟩
 rintro z V4 l4 ⟨j,rfl,jle,jl⟩
 have wj:i64.wrap ((j:Int) + 1)=((j + 1:Nat):Int):=by rw [i64w (by omega)]; rfl
 rw [Int.toNat_natCast,wj]
 have l14:=l2.trans (l3.trans l4)
 refine ⟨rfl,fun z _=>z=true↔∃h:j < O.length,cmpL O[j] x < 0,⟨fun hlt=>?_,fun hlt=>⟨false,by and_intros <;> rfl,?_⟩⟩,?_⟩
 ·have hlt:(j:Int) < (w1:Int):=of_decide_eq_true hlt
  have hj:j < O.length:=by omega
  obtain ⟨b1,p1,n1,c1,b2,p2,n2,c2,b3,p3,n3,c3,le1,eqn,hr⟩:=row_rl fx hj
  refine ⟨⟨by omega,by omega⟩,fc,b1,p1,n1,c1,b2,p2,n2,c2,b3,p3,n3,c3,⟨le1,eqn⟩,fun V5 l5=>(c_ref04_Cmp (hr.le (l14.trans l5)) (hq0.le (l4.trans l5)) (hOm _ (List.getElem_mem hj)).szl hss.szl (by omega)).mono ?_⟩
  rintro r V6 l6 rfl
  exact ⟨_,rfl,_,by and_intros <;> rfl,by dsimp only; rw [decide_eq_true_eq]; exact ⟨fun h=>⟨hj,h⟩,fun ⟨_,h⟩=>h⟩⟩
 ·have hlt:¬ (j:Int) < (w1:Int):=of_decide_eq_false hlt
  exact ⟨(fun h=>nomatch h),fun ⟨h,_⟩=>absurd h (by omega)⟩
 rintro z V7 l7 hz8
 refine ⟨rfl,fun hz=>?_,fun hz=>?_⟩
 ·obtain ⟨hj,hx'⟩:=hz8.1 hz
  refine ⟨((j + 1:Nat):Int),by dsimp only; omega,by and_intros <;> rfl,j + 1,rfl,hj,fun i' h hi'=>?_⟩
  by_cases e:i'=j
  ·subst e; exact hx'
  ·exact jl i' h (by omega)
 have hge:∀h:j < O.length,¬ cmpL O[j] x < 0:=fun h h'=>by
  have:=hz8.2 ⟨h,h'⟩
  rw [hz] at this; cases this
 have hins:=insL_at O j jle jl hge
 have l17:=l14.trans l7
 refine ⟨fun z _=>z=true↔¬ ∃h:j < O.length,O[j]=x,⟨fun he=>⟨true,by and_intros <;> rfl,?_⟩,fun he=>?_⟩,?_⟩
 ·have he:(j:Int)=(w1:Int):=by simpa using he
  exact ⟨fun _ ⟨h,_⟩=>absurd h (by omega),fun _=>rfl⟩
 ·have he:¬ (j:Int)=(w1:Int):=by simpa using he
  have hj:j < O.length:=by omega
  obtain ⟨b1,p1,n1,c1,b2,p2,n2,c2,b3,p3,n3,c3,le1,eqn,hr⟩:=row_rl fx hj
  refine ⟨⟨by omega,by omega⟩,fc,b1,p1,n1,c1,b2,p2,n2,c2,b3,p3,n3,c3,⟨le1,eqn⟩,fun V8 l8=>(c_ref04_Cmp (hr.le (l17.trans l8)) (hq0.le (l4.trans (l7.trans l8))) (hOm _ (List.getElem_mem hj)).szl hss.szl (by omega)).mono ?_⟩
  rintro r V9 l9 rfl
  exact ⟨_,rfl,_,by and_intros <;> rfl,by dsimp only; rw [bne_iff_ne,ne_eq,cmpL_eq]; exact ⟨fun h ⟨_,h'⟩=>h h',fun h h'=>h ⟨hj,h'⟩⟩⟩
 rintro z V10 l10 hz11
 have l110:=l17.trans l10
 refine ⟨rfl,fun hz V11 l11 bk hb J=>?_,fun hz=>?_⟩
 ·have hne:=hz11.1 hz
  rw [if_neg hne] at hins
  have fxl:=fx.len_le (by decide)
  have fx12:=fx.le (V':=V11) fun _ _ g=>RLv.le g (l110.trans l11)
  have hq12:=hq0.le (l4.trans (l7.trans (l10.trans l11)))
  have t1:(us.take (j * 6)).length=j * 6:=by rw [List.length_take]; omega
  have t2:((us.take (O.length * 6)).drop (j * 6)).length=(w1 - j) * 6:=by rw [List.length_drop,List.length_take,g1]; omega
  have oc:∀v ∈ (us.take (O.length * 6)).drop (j * 6),v.oneCell'=true:=by
   intro v hv'
   obtain ⟨m,hm,e⟩:=List.mem_iff_getElem.1 (List.mem_of_mem_drop hv')
   have hm':m < O.length * 6:=by rw [List.length_take] at hm; omega
   have:=List.getElem?_eq_getElem hm
   rw [e,List.getElem?_take,if_pos hm'] at this
   exact row_one_cell fx (by decide) (fun _ _=>rlv_one) hm' this
  have hmem:0 < w2->us≠[]:=fun hw e=>by rw [e] at fv; simp at fv; omega
  have hmA:0 < w2->mA bk w2=some ⟨bk,0,none⟩:=fun hw=>by unfold mA; rw [if_neg (by omega)]
  have at_:∀m v,m < O.length * 6->us[m]?=some v->V11.at ⟨bk,m,none⟩ v:=fun m v hm hv'=>blk_at (hb (hmem (by omega))) hv'
  refine ⟨⟨by omega,by omega⟩,⟨by omega,by omega⟩,⟨by omega,by omega⟩,(us.take (O.length * 6)).drop (j * 6),?_,t2,by omega,Nat.le_refl _,Nat.le_refl 6,t2,oc,fun bk2 J2 sp c' h1 h2=>?_⟩
  ·intro m v hm
   have hml:=(List.getElem?_eq_some_iff.1 hm).1
   rw [t2] at hml
   rw [List.getElem?_drop,List.getElem?_take,if_pos (by omega)] at hm
   have:=at_ (j * 6 + m) v (by omega) hm
   refine ⟨⟨bk,j * 6,none⟩,?_,?_⟩
   ·unfold slA
    rw [if_neg (by omega),hmA (by omega)]
    simp [addrAdd,add_zero']
   ·rw [← add_zero',adr_add2,add_zero']; exact this
  ·have hrl:([.bool eb,.slice ep en ec,.bool fb,.slice fp fn fe,.bool gb,.slice gp gn gc]++(us.take (O.length * 6)).drop (j * 6):List Value).length=(1 + (w1 - j)) * 6:=by
    rw [List.length_append,t2]; simp only [List.length_cons,List.length_nil]; omega
   have hrt:rowTake (([.bool eb,.slice ep en ec,.bool fb,.slice fp fn fe,.bool gb,.slice gp gn gc]:List Value).take (1 * 6)++(us.take (O.length * 6)).drop (j * 6)++sp) 0 ((1 + (w1 - j)) * 6)=[.bool eb,.slice ep en ec,.bool fb,.slice fp fn fe,.bool gb,.slice gp gn gc]++(us.take (O.length * 6)).drop (j * 6):=by
    have e3:(([.bool eb,.slice ep en ec,.bool fb,.slice fp fn fe,.bool gb,.slice gp gn gc]:List Value).take (1 * 6))=[.bool eb,.slice ep en ec,.bool fb,.slice fp fn fe,.bool gb,.slice gp gn gc]:=rfl
    rw [e3]
    unfold rowTake
    rw [Nat.ble_eq_true_of_le (by rw [List.length_append,hrl]; omega),cond_true,List.drop_zero,List.take_append_of_le_length (by rw [hrl]; exact Nat.le_refl _),List.take_of_length_le (by rw [hrl]; exact Nat.le_refl _)]
   have hr3:(1 + (w1 - j)) * 6 / 6=1 + (w1 - j):=Nat.mul_div_cancel _ (by decide)
   rw [hrt,hrl,hr3]
   refine ⟨us.take (j * 6),?_,t1,Nat.le_refl _,?_,by omega,by omega,rfl,?_,fun sp2 c2' h3 h4=>⟨(j + (1 + (w1 - j)),c2',_,((i + 1:Nat):Int)),by dsimp only; omega,by and_intros <;> first | rfl | omega,i + 1,rfl,hi,?_⟩⟩
   ·intro m v hm
    have hml:=(List.getElem?_eq_some_iff.1 hm).1
    rw [t1] at hml
    rw [List.getElem?_take,if_pos hml] at hm
    exact ⟨⟨bk,0,none⟩,hmA (by omega),by rw [add_zero']; exact at_ m v (by omega) hm⟩
   ·intro hN
    by_cases hw:0 < w2
    ·rw [hmA hw] at hN; cases hN
    ·omega
   ·intro v hv'
    rcases List.mem_append.1 hv' with hv' | hv'
    ·exact one6 v hv'
    ·exact oc v hv'
   ·show GR 6 RLv _ _ _ _ (distL (ls.take (i + 1)))
    rw [hO',hins]
    refine ⟨?_,h3,?_,row_insert fx12 jle rfl hq12 (by decide)⟩
    ·show j + (1 + (w1 - j))=_
     rw [List.length_append,List.length_take,List.length_cons,List.length_drop]
     omega
    ·dsimp only
     rw [List.length_append,List.length_append,t1,hrl]
     omega
 ·have hex:∃h:j < O.length,O[j]=x:=Classical.byContradiction fun h=>by have:=hz11.2 h; rw [hz] at this; cases this
  rw [if_pos hex] at hins
  refine ⟨(w1,w2,us,((i + 1:Nat):Int)),by dsimp only; omega,by and_intros <;> rfl,i + 1,rfl,hi,?_⟩
  show GR 6 RLv _ _ _ _ (distL (ls.take (i + 1)))
  rw [hO',hins]
  exact ⟨g1,fc,fv,fx.le fun _ _ g=>RLv.le g l110⟩
theorem c_ref14_Lines {V:View} {p:OA} {t:Tr} (h:RW V p t) (ha:t.All Okb) (hs:t.size<=1000000):Acts prog 58 #[.pointer p] V fun r V'=>∃q n c,r=.slice q n c/\Lst 6 RLv V' q n (distL t.lns):=by
 refine vc_ref14_Lines p V _ fun V1 l1=>(c_ref14_lines t (h.le l1) hs).mono ?_
 rintro r V2 l2 ⟨q,n,c,rfl,g⟩
 refine ⟨_,_,_,rfl,fun V3 l3=>(c_ref04_Distinct (g.le l3 fun _ _ g=>RLv.le g l3) (by rw [lns_len]; omega) fun l hl=>(lns_all ha l hl).2).mono ?_⟩
 rintro r V4 l4 ⟨q',m,e,rfl,g'⟩
 exact ⟨_,_,_,rfl,fun V5 l5=>⟨_,_,_,rfl,g'.le l5 fun _ _ g=>RLv.le g l5⟩⟩
/-- A list of lines that is turned into one of the same lines, one by one. -/
theorem c_ref04_ToLs {V:View} {p:OA} {n c:Nat} {ls:List L3} (h:Lst 6 RLv V p n ls) (hn:ls.length<=1000000) (hs:∀l ∈ ls,Bd l) :
  Acts prog 57 #[.slice p n c] V fun r V'=>∃q m e,r=.slice q m e/\Lst 6 RLv V' q m ls:=by
 obtain rfl:=h.len
 refine vc_ref04_ToLs p _ c V _ ⟨fun z V'=>∃j:Nat,z.2.2.2=(j:Int)/\j<=ls.length/\GR 6 RLv V' z.1 z.2.1 z.2.2.1 (ls.take j),fun z=>ls.length - z.2.2.2.toNat,⟨(0,0,[],0),by and_intros <;> rfl,0,rfl,Nat.zero_le _,GR.nil⟩,?_⟩
 rintro ⟨z1,z2,vs,z4⟩ V1 l1 ⟨j,e4,jle,hg⟩
 dsimp only at e4 hg
 subst e4
 have zl:=hg.len
 rw [List.length_take] at zl
 refine ⟨rfl,fun hlt=>?_,fun hlt V4 l4 bk hb=>?_⟩
 ·have hlt:(j:Int) < ls.length:=of_decide_eq_true hlt
  have hi:j < ls.length:=by omega
  obtain ⟨ad,ha,xs,-,hf,hat⟩:=(h.le l1 fun _ _ g=>RLv.le g l1).at_ j hi
  have hf0:=hf
  obtain ⟨_,_,_,_,_,_,_,_,_,_,_,_,ex⟩:=rlv_shape hf
  have ex:=congrArg Array.toList (Value.agg.inj ex)
  dsimp only at ex
  subst ex
  have w:i64.wrap ((j:Int) + 1)=((j + 1:Nat):Int):=by rw [i64w (by omega)]; rfl
  dsimp only
  rw [Int.toNat_natCast,w]
  obtain ⟨d1,d2,d3⟩:=(hs _ (List.getElem_mem hi)).digs
  refine ⟨isSome_addr ha,⟨by omega,by omega⟩,_,_,_,_,_,_,_,_,_,_,_,_,ad,ha,hat 0 _ rfl,hat 1 _ rfl,hat 2 _ rfl,hat 3 _ rfl,hat 4 _ rfl,hat 5 _ rfl,fun V2 l2=>(c_ref04_ToL (hf0.le l2) (by omega) (by omega) (by omega)).mono ?_⟩
  rintro r V3 l3 g
  have g0:RLv V3 r ls[j]:=g
  obtain ⟨_,_,_,_,_,_,_,_,_,_,_,_,rfl⟩:=rlv_shape g0
  refine ⟨_,_,_,_,_,_,_,_,_,_,_,_,rfl,by omega,hg.le,hg.cap,rfl,one6,fun sp c' h1 h2=>⟨(z1 + 1,c',_,((j + 1:Nat):Int)),by dsimp only; omega,by and_intros <;> rfl,j + 1,rfl,hi,?_⟩⟩
  dsimp only
  rw [List.take_add_one,List.getElem?_eq_getElem hi]
  exact (hg.mono (V':=V3) fun _ _ g=>RLv.le g (l2.trans l3)).snoc rfl g0 (by decide) h1 h2
 ·have hlt:¬ (j:Int) < ls.length:=of_decide_eq_false hlt
  obtain rfl:j=ls.length:=by omega
  rw [List.take_length] at hg
  obtain rfl:=hg.len
  exact ⟨_,_,_,rfl,Lst.of_mrow hb (hg.row.le fun _ _ g=>RLv.le g l4) (by decide) hg.le⟩
theorem c_ref04_SameLs {V:View} {p:OA} {n c:Nat} {q:OA} {m d:Nat} {A:List L3} (hA:Lst 6 RLv V p n A) (hB:Lst 6 RLv V q m A) (hn:A.length<=1000000) (hs:∀l ∈ A,Bd l) :
  Acts prog 56 #[.slice p n c,.slice q m d] V fun r V'=>r=.bool true:=by
 obtain rfl:=hA.len
 obtain rfl:=hB.len
 refine vc_ref04_SameLs p _ c q _ d V _ ⟨fun h=>by simp at h,fun _=>⟨fun z V'=>∃j:Nat,z=(j:Int)/\j<=A.length,fun z=>A.length - z.toNat,⟨0,by and_intros <;> rfl,0,rfl,Nat.zero_le _⟩,?_⟩⟩
 rintro z V2 l2 ⟨j,rfl,jle⟩
 refine ⟨rfl,fun hlt=>?_,fun hlt V6 l6=>rfl⟩
 have hlt:(j:Int) < A.length:=of_decide_eq_true hlt
 have hi:j < A.length:=by omega
 obtain ⟨ad,ha,xs,-,hf,hat⟩:=(hA.le l2 fun _ _ g=>RLv.le g l2).at_ j hi
 obtain ⟨ad',ha',ys,-,hf',hat'⟩:=(hB.le l2 fun _ _ g=>RLv.le g l2).at_ j hi
 have hf0:=hf
 have hf0':=hf'
 obtain ⟨_,_,_,_,_,_,_,_,_,_,_,_,ex⟩:=rlv_shape hf
 obtain ⟨_,_,_,_,_,_,_,_,_,_,_,_,ey⟩:=rlv_shape hf'
 have ex:=congrArg Array.toList (Value.agg.inj ex)
 have ey:=congrArg Array.toList (Value.agg.inj ey)
 dsimp only at ex ey
 subst ex ey
 have w:i64.wrap ((j:Int) + 1)=((j + 1:Nat):Int):=by rw [i64w (by omega)]; rfl
 rw [Int.toNat_natCast,w]
 obtain ⟨d1,d2,d3⟩:=(hs _ (List.getElem_mem hi)).digs
 refine ⟨isSome_addr ha,⟨by omega,by omega⟩,_,_,_,_,_,_,_,_,_,_,_,_,ad,ha,hat 0 _ rfl,hat 1 _ rfl,hat 2 _ rfl,hat 3 _ rfl,hat 4 _ rfl,hat 5 _ rfl,isSome_addr ha',⟨by omega,by omega⟩,_,_,_,_,_,_,_,_,_,_,_,_,ad',ha',hat' 0 _ rfl,hat' 1 _ rfl,hat' 2 _ rfl,hat' 3 _ rfl,hat' 4 _ rfl,hat' 5 _ rfl,fun V3 l3=>(c_ref04_SameL (hf0.le l3) (hf0'.le l3) (by omega) (by omega) (by omega)).mono ?_⟩
 rintro r V4 l4 rfl
 rw [decide_eq_true ⟨rfl,rfl,rfl⟩]
 exact ⟨_,rfl,(fun h=>nomatch h),fun _=>⟨((j + 1:Nat):Int),by dsimp only; omega,by and_intros <;> rfl,j + 1,rfl,hi⟩⟩
/-! package tree -/
theorem c_tree_Lines {V:View} {l:List Nd} (hb:∀x ∈ l,Bd x.ln) {v:Value} {root:Int} (h:AT V v root l) {t:Tr} (ho:ofT l root=some t) (hs:t.size < 50) :
  Acts prog 51 #[v] V fun r V'=>∃q n c,r=.tuple #[.slice q n c,.nilIface]/\Lst 6 RLv V' q n (distL t.lns):=by
 have h0:=h
 obtain ⟨p,n,c,rfl,hn⟩:=h
 have hall:t.All Bd:=ofT_all hb ho
 refine vc_tree_Lines root p _ c V _ fun V1 l1=>(c_bsp_Of' hb (h0.le l1)).mono ?_
 rintro r V2 l2 ⟨q,rfl,hq⟩
 rw [ho]
 refine ⟨_,_,rfl,(fun h=>nomatch h),fun _ V4 l4=>(c_bsp_Lines ((hq t ho).le l4) hall hs).mono ?_⟩
 rintro r V5 l5 ⟨q',n',c',m,rfl,g,sm⟩
 rw [lines_eq sm] at g
 have hbd:∀x ∈ distL t.lns,Bd x:=fun x hx=>by
  obtain ⟨y,hy,rfl⟩:=List.mem_map.1 ((distL_spec _).2 x |>.1 hx)
  exact (lns_all hall y hy).can
 have hlen:(distL t.lns).length < 50:=by have:=distL_len t.lns; rw [lns_len] at this; omega
 clear sm
 generalize distL t.lns=A at *
 obtain rfl:=g.len
 refine ⟨_,_,_,rfl,fun z V'=>∃j:Nat,z.2.2.2=(j:Int)/\j<=A.length/\GR 6 RLv V' z.1 z.2.1 z.2.2.1 (A.take j),fun z=>A.length - z.2.2.2.toNat,⟨(0,0,[],0),by and_intros <;> rfl,0,rfl,Nat.zero_le _,GR.nil⟩,?_⟩
 rintro ⟨z1,z2,vs,z4⟩ V6 l6 ⟨j,e4,jle,hg⟩
 dsimp only at e4 hg
 subst e4
 have zl:=hg.len
 rw [List.length_take] at zl
 refine ⟨rfl,fun hlt=>?_,fun hlt V9 l9 bk hbk=>?_⟩
 ·have hlt:(j:Int) < A.length:=of_decide_eq_true hlt
  have hi:j < A.length:=by omega
  obtain ⟨ad,ha,xs,-,hf,hat⟩:=(g.le l6 fun _ _ g=>RCL.le g l6).at_ j hi
  have hf0:=hf
  obtain ⟨_,_,_,_,_,_,_,_,_,ex⟩:=hf.shape
  have ex:=congrArg Array.toList (Value.agg.inj ex)
  dsimp only at ex
  subst ex
  have w:i64.wrap ((j:Int) + 1)=((j + 1:Nat):Int):=by rw [i64w (by omega)]; rfl
  dsimp only
  rw [Int.toNat_natCast,w]
  obtain ⟨s1,s2,s3⟩:=hf0.2.sz
  refine ⟨isSome_addr ha,⟨by omega,by omega⟩,_,_,_,_,_,_,_,_,_,ad,ha,hat 0 _ rfl,hat 1 _ rfl,hat 2 _ rfl,hat 3 _ rfl,hat 4 _ rfl,hat 5 _ rfl,hat 6 _ rfl,hat 7 _ rfl,hat 8 _ rfl,fun V7 l7=>(c_geo_API ((hf0.le l7).1) s1 s2 s3 (by omega)).mono ?_⟩
  rintro r V8 l8 gr
  have g0:RLv V8 r A[j]:=RLi.api gr
  obtain ⟨_,_,_,_,_,_,_,_,_,_,_,_,rfl⟩:=rlv_shape g0
  refine ⟨_,_,_,_,_,_,_,_,_,_,_,_,rfl,by omega,hg.le,hg.cap,rfl,one6,fun sp c' h1 h2=>⟨(z1 + 1,c',_,((j + 1:Nat):Int)),by dsimp only; omega,by and_intros <;> rfl,j + 1,rfl,hi,?_⟩⟩
  dsimp only
  rw [List.take_add_one,List.getElem?_eq_getElem hi]
  exact (hg.mono (V':=V8) fun _ _ g=>RLv.le g (l7.trans l8)).snoc rfl g0 (by decide) h1 h2
 ·have hlt:¬ (j:Int) < A.length:=of_decide_eq_false hlt
  obtain rfl:j=A.length:=by omega
  rw [List.take_length] at hg
  obtain rfl:=hg.len
  exact ⟨_,_,_,rfl,Lst.of_mrow hbk (hg.row.le fun _ _ g=>RLv.le g l9) (by decide) hg.le⟩
end Go.Proofs.Tryz
/- By program: the conditions of the functions, from their loaded code. -/
namespace Go.Proofs.Tryz
open Go.Eng
open Go.Value renaming int→I,pointer→P,slice→S,agg→A,bool→B,tuple→T
open Go.IntKind renaming i64→J,u64→U,u32→W
set_option maxRecDepth 100000
theorem vc_law14_TreeCounts (a2:OA) (a3 a4:Nat) (a5:Int) (V:View) (R:VR) (h:(∀t,V.Le t->Acts prog 10 #[S a2 a3 a4] t fun d9 a6=>∃n:Nat,∃a7 a8 a9,∃b0,d9=P (some ⟨n,0,none⟩)/\t.w.heap.size<=n/\a6.blk n (.cells #[S a7 a8 a9,I J b0] 107 (0,0))/\(∀o:View,(a6.hide n).Le o->∀c:Nat,(o.w.heap[c]?=some (.cells #[S a7 a8 a9,I J b0] 107 (0,0)))->(o.H c)->Acts prog 45 #[P (some ⟨c,0,none⟩),I J 4] (o.lend [c]) fun e0 b1=>∃a,e0=P a/\∃e1 e2 e3,∃e4,b1.w.heap[c]?=some (.cells #[S e1 e2 e3,I J e4] 107 (0,0))/\(∀b2,b1.shut.Le b2->Acts prog 47 #[P a] b2 fun e5 e6=>∃b3,∃b4 b5 b6,e5=A #[I J b3,S b4 b5 b6]/\(Ca e6 46 #[A #[I J b3,S b4 b5 b6],I J a5] fun e7 e8=>∃d,∃e f g,e7=A #[I J d,S e f g]/\(Ca e8 48 #[A #[I J d,S e f g]] fun e9 f0=>∃i,∃p,e9=T #[I J i,p]/\(Ca f0 49 #[A #[I J d,S e f g]] fun f1 f2=>∃u,∃q,f1=T #[I J u,q]/\(Ca f2 50 #[A #[I J d,S e f g]] fun f3 f4=>∃k,∃l,∃r,f3=T #[I J k,I J l,r]/\(Ca f4 51 #[A #[I J d,S e f g]] fun f5 f6=>∃b7 b8 b9,∃s,f5=T #[S b7 b8 b9,s]/\(Ca f6 52 #[P a] fun f7 f8=>∃x,∃y,f7=T #[I J x,I J y]/\(Ca f8 53 #[] fun f9 b=>∃z,f9=B z/\((z=true->(IsIface p)/\(((isNilI p)=true->(IsIface q)/\(((isNilI q)=true->(IsIface r)/\(((isNilI r)=true->(IsIface s)/\(((isNilI s)=true->(Ca b 54 #[P a] fun g0 c0=>∃a0,g0=I J a0/\(((i == a0)=true->(Ca c0 55 #[P a] fun g1 m=>∃a1,g1=I J a1/\(((u == a1)=true->(((k == x)=true->(((l == y)=true->((((J.wrap (k + l)) == (J.wrap (i + (1:Int))))=true->(Ca m 58 #[P a] fun g2 g3=>∃c1 c2 c3,g2=S c1 c2 c3/\(Ca g3 57 #[S c1 c2 c3] fun g4 g5=>∃c4 c5 c6,g4=S c4 c5 c6/\(Ca g5 56 #[S b7 b8 b9,S c4 c5 c6] fun g6 g7=>∃c7,g6=B c7/\(Rt g7 R (B c7))))))/\(((J.wrap (k + l)) == (J.wrap (i + (1:Int))))=false->(Rt m R (B false)))))/\((l == y)=false->(Rt m R (B false)))))/\((k == x)=false->(Rt m R (B false)))))/\((u == a1)=false->(Rt m R (B false))))))/\((i == a0)=false->(Rt c0 R (B false))))))/\((isNilI s)=false->(Rt b R (B false)))))/\((isNilI r)=false->(Rt b R (B false)))))/\((isNilI q)=false->(Rt b R (B false)))))/\((isNilI p)=false->(Rt b R (B false)))))/\(z=false->(Rt b R (B false))))))))))))))):
 Acts prog 9 #[S a2 a3 a4,I J a5] V R:=
 fd (LF:=LF0) (RF:=[1000010]) [] [] func9 h
end Go.Proofs.Tryz
