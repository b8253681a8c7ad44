/- A part of the proof (joined by program from: VKeep, SceneC, WriteA, KeepA, NewA, LawC, Row, RowX, GR, VTreeC, TreeF, SortP, RowS, Cmpt, FracE). -/
import Derived.Test.YtimkdinmcbepnaaGreatDoorT5
import Derived.Test.YtimkdinmcbepnaaGreatDoorT13
import Derived.Test.YtimkdinmcbepnaaGreatDoorT12
import Derived.Test.YtimkdinmcbepnaaGreatDoorT6
import Derived.Test.YtimkdinmcbepnaaGreatDoorT11
set_option linter.unusedVariables false
open Go.IntKind (i64 u64 u32)
/- By program: the conditions of the functions, from their loaded code. -/
namespace Go.Proofs.Tryz
open Go.Eng
open Go.Value renaming int→I,pointer→P,slice→S,agg→A,bool→B,tuple→T
open Go.IntKind renaming i64→J,u64→U,u32→W
set_option maxRecDepth 100000
theorem vc_keep_moved (a b c:Int) (V:View) (R:VR) (h:(((decide (a < (0:Int)))=true->(Rt V R (I J a)))/\((decide (a < (0:Int)))=false->(b≠0)/\(Rt V R (I J (J.wrap ((J.wrap (b - (1:Int))) - ((J.wrap (a + c)).tmod b)))))))):
 Acts prog 108 #[I J a,I J b,I J c] V R:=
 fd (LF:=LF0) (RF:=[1000010]) [] [] func108 h
theorem vc_keep_Shuffled (n:Int) (g:OA) (a k:Nat) (e:Int) (V:View) (R:VR) (h:((((a:Int) == (0:Int))=true->(Rt V R (A #[I J n,S g a k])))/\(((a:Int) == (0:Int))=false->((a:Int)≠0)/\((a:Int)≠0)/\(0<=(a:Int))/\((a:Int)<=(a:Int))/\((112:Int) * (a:Int)<=140737488355328)/\(Ca V 108 #[I J n,I J (a:Int),I J ((J.wrap ((e.tmod (a:Int)) + (a:Int))).tmod (a:Int))] fun b3 t=>∃l,b3=I J l/\(∃(o:(Int × (List Value))->VP) (u:(Int × (List Value))->Nat),(∃p,((((J.wrap ((e.tmod (a:Int)) + (a:Int))).tmod (a:Int))=((J.wrap ((e.tmod (a:Int)) + (a:Int))).tmod (a:Int)))/\s7 0 (a:Int) 0 g a k (a:Int) (((0:Int)=p.1)/\s6 (0:Int) (none:OA) 0 0 l 0 ((((a:Int).toNat:Nat)=(a:Int).toNat)/\(((a:Int).toNat:Nat)=(a:Int).toNat)/\((zrow ((a:Int).toNat) [B false,S none 0 0,B false,S none 0 0,B false,S none 0 0,I J 0,I J 0])=p.2))))/\o p t)/\∀(b:Int × (List Value)) (d:View),t.Le d->o b d->(true=true/\(((decide (b.1 < (a:Int)))=true->(g.isSome=true)/\(0<=b.1/\b.1 < (a:Int))/\(∃w,∃x y z,∃a0,∃a1 a2 a3,∃a4,∃a5 a6 a7,∃a8,∃a9,∃f,addrAdd g (b.1.toNat * 8)=some f/\d.at (f.add 0) (B w)/\d.at (f.add 1) (S x y z)/\d.at (f.add 2) (B a0)/\d.at (f.add 3) (S a1 a2 a3)/\d.at (f.add 4) (B a4)/\d.at (f.add 5) (S a5 a6 a7)/\d.at (f.add 6) (I J a8)/\d.at (f.add 7) (I J a9)/\(Ca d 108 #[I J b.1,I J (a:Int),I J ((J.wrap ((e.tmod (a:Int)) + (a:Int))).tmod (a:Int))] fun b4 b5=>∃i,b4=I J i/\(Ca b5 108 #[I J a8,I J (a:Int),I J ((J.wrap ((e.tmod (a:Int)) + (a:Int))).tmod (a:Int))] fun b6 b7=>∃b0,b6=I J b0/\(Ca b7 108 #[I J a9,I J (a:Int),I J ((J.wrap ((e.tmod (a:Int)) + (a:Int))).tmod (a:Int))] fun b8 b9=>∃b1,b8=I J b1/\(0<=i/\i < (((a:Int).toNat:Nat):Int))/\((0 + (i.toNat * 8)) + 8<=b.2.length)/\(∃m:Int × (List Value),u m < u b/\((((J.wrap ((e.tmod (a:Int)) + (a:Int))).tmod (a:Int))=((J.wrap ((e.tmod (a:Int)) + (a:Int))).tmod (a:Int)))/\s7 0 (a:Int) 0 g a k (a:Int) (((J.wrap (b.1 + (1:Int)))=m.1)/\s6 (0:Int) (none:OA) 0 0 l 0 ((((a:Int).toNat:Nat)=(a:Int).toNat)/\(((a:Int).toNat:Nat)=(a:Int).toNat)/\((setVals b.2 (0 + (i.toNat * 8)) [B w,S x y z,B a0,S a1 a2 a3,B a4,S a5 a6 a7,I J b0,I J b1])=m.2))))/\o m b9))))))/\((decide (b.1 < (a:Int)))=false->(∀q,d.Le q->∀b2:Nat,(q.blk b2 (.cells b.2.toArray 171 (0,0)))->R (A #[I J l,S (some ⟨b2,0,none⟩) ((a:Int).toNat) ((a:Int).toNat)]) q))))))))):
 Acts prog 46 #[A #[I J n,S g a k],I J e] V R:=
 fd (LF:=LF0) (RF:=[1000010]) [(7,⟨Int × (List Value),false,[1,4,5,6,31,32],[4,6],fun r=>[(33,.c (.v (I J r.1)))],fun r=>[(28,⟨.row r.2,171⟩)]⟩)] [] func46 h
theorem vc_ref14_Code (b:Bool) (V:View) (R:VR) (h:(∀a,V.Le a->∀c:Nat,(a.blk c (.cells #[B true,B b,B false,S none 0 0,B false,S none 0 0,B false,S none 0 0,P none,P none] 166 (0,0)))->R (P (some ⟨c,0,none⟩)) a)):
 Acts prog 106 #[B b] V R:=
 fd (LF:=LF0) (RF:=[1000010]) [] [] func106 h
theorem vc_ref14_write (d:OA) (x a g:Nat) (b:List Value) (V:View) (R:VR) (hw100000:b≠[]->V.w.heap[x]?=some (.cells b.toArray 171 (0,0))) (hx100000:b≠[]->V.X x) (h:(d.isSome=true)/\(d.isSome=true)/\(∃b5,(∃c1,addrAdd d 0=some c1/\V.at c1 (B b5))/\((b5=true->(d.isSome=true)/\(d.isSome=true)/\(∃b6,(∃c2,addrAdd d 1=some c2/\V.at c2 (B b6))/\((b6=true->(∀b7:View,∀a6:Nat,V.Le (b7.hideG (b≠[]) a6)->(b≠[]->b7.w.heap[a6]?=some (.cells b.toArray 171 (0,0)))->(b≠[]->V.w.heap.size<=a6 \/ (b≠[]/\a6=x) \/ False)->R (T #[S (mA a6 g) a g,I J (-2)]) b7))/\(b6=false->(∀b8:View,∀a7:Nat,V.Le (b8.hideG (b≠[]) a7)->(b≠[]->b8.w.heap[a7]?=some (.cells b.toArray 171 (0,0)))->(b≠[]->V.w.heap.size<=a7 \/ (b≠[]/\a7=x) \/ False)->R (T #[S (mA a7 g) a g,I J (-1)]) b8)))))/\(b5=false->(d.isSome=true)/\(d.isSome=true)/\(∃c3,∃c4 c5 c6,∃c7,∃c8 c9 d0,∃d1,∃d2 d3 d4,∃y,addrAdd d 2=some y/\V.at (y.add 0) (B c3)/\V.at (y.add 1) (S c4 c5 c6)/\V.at (y.add 2) (B c7)/\V.at (y.add 3) (S c8 c9 d0)/\V.at (y.add 4) (B d1)/\V.at (y.add 5) (S d2 d3 d4)/\(Ca V 122 #[A #[B c3,S c4 c5 c6,B c7,S c8 c9 d0,B d1,S d2 d3 d4]] fun e2 d5=>∃i,∃k l m,∃n,∃o p q,∃r,∃s t u,e2=A #[B i,S k l m,B n,S o p q,B r,S s t u]/\((a + 1) * 112<=140737488355328/\a<=g/\g * 8<=b.length/\([B i,S k l m,B n,S o p q,B r,S s t u,I J 0,I J 0]:List Value).length=1 * 8/\(∀e3 ∈ ([B i,S k l m,B n,S o p q,B r,S s t u,I J 0,I J 0]:List Value),e3.oneCell'=true)/\∀(z:List Value) (b3:Nat),a + 1<=b3->b3 * 8<=(a + 1) * 8 + z.length->(d.isSome=true)/\(d.isSome=true)/\(∃d6,(∃d7,addrAdd d 8=some d7/\d5.at d7 (P d6))/\(∀a0,d5.Le a0->∀a8:Nat,((b.take (a * 8)++([B i,S k l m,B n,S o p q,B r,S s t u,I J 0,I J 0]:List Value)++z)≠[]->a0.w.heap[a8]?=some (.cells (b.take (a * 8)++([B i,S k l m,B n,S o p q,B r,S s t u,I J 0,I J 0]:List Value)++z).toArray 171 (0,0)))->((b.take (a * 8)++([B i,S k l m,B n,S o p q,B r,S s t u,I J 0,I J 0]:List Value)++z)≠[]->a0.H a8)->Acts prog 109 #[P d6,S (mA a8 b3) (a + 1) b3] (a0.lend [vb (b.take (a * 8)++([B i,S k l m,B n,S o p q,B r,S s t u,I J 0,I J 0]:List Value)++z) a0.w.heap.size a8]) fun e4 b9=>∃(a1:Nat) (e:List Value),(e≠[]->b9.w.heap[a1]?=some (.cells e.toArray 171 (0,0)))/\(e≠[]->a0.w.heap.size<=a1 \/ ((b.take (a * 8)++([B i,S k l m,B n,S o p q,B r,S s t u,I J 0,I J 0]:List Value)++z)≠[]/\a1=a8))/\∃(e6:OA) (d8 b4:Nat),∃a2,e4=T #[S (mA a1 b4) d8 b4,I J a2]/\(d.isSome=true)/\(d.isSome=true)/\(∃d9,(∃e0,addrAdd d 9=some e0/\(b9.shut.hideG (e≠[]) a1).at e0 (P d9))/\(∀a3:View,(b9.shut.hideG (e≠[]) a1).Le a3->∀a9:Nat,(e≠[]->a3.w.heap[a9]?=some (.cells e.toArray 171 (0,0)))->(e≠[]->a3.H a9)->Acts prog 109 #[P d9,S (mA a9 b4) d8 b4] (a3.lend [vb e a3.w.heap.size a9]) fun e5 e1=>∃(b0:Nat) (f:List Value),(f≠[]->e1.w.heap[b0]?=some (.cells f.toArray 171 (0,0)))/\(f≠[]->a3.w.heap.size<=b0 \/ (e≠[]/\b0=a9))/\∃(e7:OA) (a4 a5:Nat),∃b1,e5=T #[S (mA b0 a5) a4 a5,I J b1]/\(0<=(a:Int)/\(a:Int) < (a4:Int))/\(a4<=a5)/\(((((a:Int).toNat) * 8) + 6) + 1<=f.length)/\(0<=(a:Int)/\(a:Int) < (a4:Int))/\(a4<=a5)/\(((((a:Int).toNat) * 8) + 7) + 1<=(f.set ((((a:Int).toNat) * 8) + 6) (I J a2)).length)/\(∀c0:View,∀b2:Nat,(e1.shut.hideG (f≠[]) b0).Le (c0.hideG (((f.set ((((a:Int).toNat) * 8) + 6) (I J a2)).set ((((a:Int).toNat) * 8) + 7) (I J b1))≠[]) b2)->(((f.set ((((a:Int).toNat) * 8) + 6) (I J a2)).set ((((a:Int).toNat) * 8) + 7) (I J b1))≠[]->c0.w.heap[b2]?=some (.cells ((f.set ((((a:Int).toNat) * 8) + 6) (I J a2)).set ((((a:Int).toNat) * 8) + 7) (I J b1)).toArray 171 (0,0)))->(((f.set ((((a:Int).toNat) * 8) + 6) (I J a2)).set ((((a:Int).toNat) * 8) + 7) (I J b1))≠[]->V.w.heap.size<=b2 \/ (b≠[]/\b2=x) \/ False)->R (T #[S (mA b2 a5) a4 a5,I J (a:Int)]) c0)))))))))))):
 Acts prog 109 #[P d,S (mA x g) a g] V R:=
 fn_does (LF:=LF0) (RF:=[1000010]) (β0:=(upd1 (fun _=>0) 100000 x)) tab_ok mixed [] [] func109 (by kernel_rfl) [(0,.c (.v (P d))),(1,.c (.msl 100000 a g))] [(100000,⟨.mrow b,171⟩)] (by kernel_rfl) ⟨⟨hw100000,hx100000⟩,trivial,trivial⟩ h (by kernel_rfl)
theorem vc_ref14_Write (f:OA) (V:View) (R:VR) (h:(∀d,V.Le d->Acts prog 109 #[P f,S none 0 0] d fun m g=>∃(b:Nat) (a:List Value),(a≠[]->g.w.heap[b]?=some (.cells a.toArray 171 (0,0)))/\(a≠[]->d.w.heap.size<=b \/ False)/\∃(n:OA) (i c:Nat),∃k,m=T #[S (mA b c) i c,I J k]/\(∀e:View,(g.shut.hideG (a≠[]) b).Le e->∀l:Nat,(a≠[]->e.blk l (.cells a.toArray 171 (0,0)))->R (A #[I J k,S (mA l c) i c]) e))):
 Acts prog 47 #[P f] V R:=
 fd (LF:=LF0) (RF:=[1000010]) [] [] func47 h
end Go.Proofs.Tryz
/- Trees of the reference in memory: Code, the tape's Tree. -/
namespace Go.Proofs.Tryz
open Go.Eng Go.Big
/-- A tree of the reference. -/
def RW (V:View):OA->Tr->Prop
 | p,.leaf i=>∃(b:Nat) (c2 c3 c4 c5 c6 c7 c8 c9:Value),p=some ⟨b,0,none⟩/\V.blk b (.cells #[.bool true,.bool i,c2,c3,c4,c5,c6,c7,c8,c9] 166 (0,0))
 | p,.node l x y=>∃(b:Nat) (i:Bool) (b1:Bool) (p1:OA) (n1 c1:Nat) (b2:Bool) (p2:OA) (n2 c2:Nat) (b3:Bool) (p3:OA) (n3 c3:Nat) (pl pr:OA),p=some ⟨b,0,none⟩ /\
   V.blk b (.cells #[.bool false,.bool i,.bool b1,.slice p1 n1 c1,.bool b2,.slice p2 n2 c2,.bool b3,.slice p3 n3 c3,.pointer pl,.pointer pr] 166 (0,0)) /\
   RL V (.agg #[.bool b1,.slice p1 n1 c1,.bool b2,.slice p2 n2 c2,.bool b3,.slice p3 n3 c3]) l.1 l.2.1 l.2.2/\RW V pl x/\RW V pr y
theorem RW.le {V V':View} (h:V.Le V'):∀{t:Tr} {p:OA},RW V p t->RW V' p t
 | .leaf i,p,⟨b,c2,c3,c4,c5,c6,c7,c8,c9,e,hb⟩=>⟨b,c2,c3,c4,c5,c6,c7,c8,c9,e,h _ _ hb⟩
 | .node l x y,p,⟨b,i,b1,p1,n1,c1,b2,p2,n2,c2,b3,p3,n3,c3,pl,pr,e,hb,hl,hx,hy⟩=>⟨b,i,b1,p1,n1,c1,b2,p2,n2,c2,b3,p3,n3,c3,pl,pr,e,h _ _ hb,hl.le h,RW.le h hx,RW.le h hy⟩
theorem c_ref14_Code {V:View} (i:Bool):Acts prog 106 #[.bool i] V fun r V'=>∃p,r=.pointer p/\RW V' p (.leaf i):=
 vc_ref14_Code i V _ fun V1 l1 b hb=>⟨_,rfl,b,_,_,_,_,_,_,_,_,rfl,hb⟩
/-- The lines of a tree are in normal form, and small. -/
def Okb (x:L3):Prop:=okL x=true/\Bd x
theorem c_Tree:∀(k:Nat) {V:View} {tb:Nat} {p:OA} {n c:Nat} {at_:Int},k<=10->Rdl V p n->n<=400->TpAt V tb p n c at_->V.X tb->0<=at_ ->
  Acts prog 45 #[.pointer (some ⟨tb,0,none⟩),.int .i64 (k:Int)] V fun r V'=>∃q t at',r=.pointer q/\RW V' q t/\t.All Okb/\t.size < 2 ^ k/\0<=at'/\TpAt V' tb p n c at':=by
 intro k
 induction k with
 | zero=>
  intro V tb p n c at_ _ hr hn hw hx h0
  refine vc_scene_Tape_Tree tb p n c at_ _ V _ hw hx ⟨fun g V1 l1 bk1 e1 h1=>(c_Next (V:=V1.lend [bk1]) 2 (hr.le fun b o h=>l1 b o h) hn e1 ⟨by simp,h1⟩ h0 (by omega) (by omega)).mono ?_,fun g=>by simp at g⟩
  rintro r V2 l2 ⟨x,at1,rfl,-,-,t1,hw1⟩
  refine ⟨_,rfl,_,_,_,_,hw1,fun V3 l3=>(c_ref14_Code _).mono ?_⟩
  rintro r V4 l4 ⟨q,rfl,hq⟩
  exact ⟨_,rfl,fun V5 l5 e5=>⟨_,_,at1,rfl,hq.le l5,trivial,by simp [Tr.size],t1,e5⟩⟩
 | succ k ih=>
  intro V tb p n c at_ hk hr hn hw hx h0
  refine vc_scene_Tape_Tree tb p n c at_ _ V _ hw hx ⟨fun g=>by rw [beq_iff_eq] at g; omega,fun _ V6 l6 bk6 e6 h6=>(c_Next (V:=V6.lend [bk6]) 4 (hr.le fun b o h=>l6 b o h) hn e6 ⟨by simp,h6⟩ h0 (by omega) (by omega)).mono ?_⟩
  rintro r V7 l7 ⟨x,at1,rfl,-,-,t1,hw1⟩
  have l07:V.Le V7:=fun b o h=>l7 b o (l6 b o h)
  refine ⟨_,rfl,_,_,_,_,hw1,fun g V8 l8 bk10 e8 h8=>(c_Next (V:=V8.lend [bk10]) 2 (hr.le fun b o h=>l8 b o (l07 b o h)) hn e8 ⟨by simp,h8⟩ t1 (by omega) (by omega)).mono ?_,fun g V13 l13 bk15 e13 h13=>(c_L (V:=V13.lend [bk15]) (hr.le fun b o h=>l13 b o (l07 b o h)) hn e13 ⟨by simp,h13⟩ t1).mono ?_⟩
  ·rintro r V9 l9 ⟨x,at2,rfl,-,-,t2,hw2⟩
   refine ⟨_,rfl,_,_,_,_,hw2,fun V10 l10=>(c_ref14_Code _).mono ?_⟩
   rintro r V11 l11 ⟨q,rfl,hq⟩
   exact ⟨_,rfl,fun V12 l12 e12=>⟨_,_,at2,rfl,hq.le l12,trivial,by simpa [Tr.size] using Nat.two_pow_pos _,t2,e12⟩⟩
  ·rintro r V14 l14 ⟨ln,at2,hl,hok,hbd,t2,hw2⟩
   have hl0:=hl
   obtain ⟨b1,u1,v1,w1,b2,u2,v2,w2,b3,u3,v3,w3,rfl⟩:=(RL_shape' hl)
   have l014:V.Le V14:=fun b o h=>l14 b o (l13 b o (l07 b o h))
   have wk:i64.wrap (((k + 1:Nat):Int) - 1)=(k:Int):=by rw [i64w (by omega)]; omega
   refine ⟨_,_,_,_,_,_,_,_,_,_,_,_,rfl,_,_,_,_,hw2,fun V15 l15 bk24 e15 h15=>?_⟩
   rw [wk]
   refine ((ih (V:=V15.lend [bk24]) (by omega) (hr.le fun b o h=>l15 b o (l014 b o h)) hn e15 ⟨by simp,h15⟩ t2).mono ?_)
   rintro r V16 l16 ⟨qa,ta,at3,rfl,hqa,hta,hsa,t3,hw3⟩
   have l016:V.Le V16:=fun b o h=>l16 b o (l15 b o (l014 b o h))
   refine ⟨_,rfl,_,_,_,_,hw3,fun V17 l17 bk28 e17 h17=>(ih (V:=V17.lend [bk28]) (by omega) (hr.le fun b o h=>l17 b o (l016 b o h)) hn e17 ⟨by simp,h17⟩ t3).mono ?_⟩
   rintro r V18 l18 ⟨qb,tb',at4,rfl,hqb,htb,hsb,t4,hw4⟩
   refine ⟨_,rfl,_,_,_,_,hw4,fun V19 l19 bk32 e19 hb=>⟨_,.node ln ta tb',at4,rfl,⟨bk32,_,_,_,_,_,_,_,_,_,_,_,_,_,_,_,rfl,hb,?_,?_,?_⟩,⟨⟨hok,hbd⟩,hta,htb⟩,?_,t4,e19⟩⟩
   ·exact hl0.le fun b o h=>l19 b o (l18 b o (l17 b o (l16 b o (l15 b o h))))
   ·exact RW.le (V:=V16) (V':=V19) (fun b o h=>l19 b o (l18 b o (l17 b o h))) hqa
   ·exact RW.le (V:=V18) (V':=V19) (fun b o h=>l19 b o h) hqb
   ·simp only [Tr.size]; rw [Nat.pow_succ]; omega
end Go.Proofs.Tryz
/- Contracts: the reference writes a tree; Same of written trees. -/
namespace Go.Proofs.Tryz
open Go.Eng Go.Big
theorem rw_isS {V:View} {t:Tr} {p:OA} (h:RW V p t):p.isSome=true:=by
 cases t with
 | leaf i=>obtain ⟨b,c2,c3,c4,c5,c6,c7,c8,c9,rfl,hb⟩:=h; rfl
 | node l x y=>obtain ⟨b,i,b1,p1,n1,c1,b2,p2,n2,c2,b3,p3,n3,c3,pl,pr,rfl,-⟩:=h; rfl
theorem c_write:∀(t:Tr) {V:View} {p:OA} {lb:Nat} {n c:Nat} {vs:List Value} {l:List Nd},RW V p t->t.All Okb->n=l.length ->
  (vs≠[]->V.w.heap[lb]?=some (.cells vs.toArray 171 (0,0)))->(vs≠[]->V.X lb)->n<=c->c * 8<=vs.length->NR V vs l->n + t.size<=1000000 ->
  Acts prog 109 #[.pointer p,.slice (mA lb c) n c] V fun r V'=>∃(bm:Nat) (vm:List Value) (c':Nat),(vm≠[]->V'.w.heap[bm]?=some (.cells vm.toArray 171 (0,0)))/\(vm≠[]->V.w.heap.size<=bm \/ (vs≠[]/\bm=lb)) /\
   r=.tuple #[.slice (mA bm c') (n + t.size) c',.int .i64 (rt n t)]/\n + t.size<=c'/\c' * 8<=vm.length/\NR (V'.hideG (vm≠[]) bm) vm (l++wr n t):=by
 intro t
 induction t with
 | leaf i=>
  intro V p lb n c vs l hp _ hn hv hxv hnc hcv hnr hsz
  have hs:=rw_isS hp
  obtain ⟨b,c2,c3,c4,c5,c6,c7,c8,c9,rfl,hb⟩:=hp
  have fin:∀(V3:View) (bk:Nat) (x:Int),V.Le (V3.hideG (vs≠[]) bk)->(vs≠[]->V3.w.heap[bk]?=some (.cells vs.toArray 171 (0,0))) ->
    (vs≠[]->V.w.heap.size<=bk \/ (vs≠[]/\bk=lb) \/ False)->x=rt n (.leaf i)->∃(bm:Nat) (vm:List Value) (c':Nat),(vm≠[]->V3.w.heap[bm]?=some (.cells vm.toArray 171 (0,0)))/\(vm≠[]->V.w.heap.size<=bm \/ (vs≠[]/\bm=lb)) /\
   Value.tuple #[.slice (mA bk c) n c,.int .i64 x]=.tuple #[.slice (mA bm c') (n + (Tr.leaf i).size) c',.int .i64 (rt n (.leaf i))]/\n + (Tr.leaf i).size<=c'/\c' * 8<=vm.length/\NR (V3.hideG (vm≠[]) bm) vm (l++wr n (.leaf i)):=by
   intro V3 bk x hle e3 e4 hx
   refine ⟨bk,vs,c,e3,fun h=>?_,by rw [hx]; rfl,hnc,hcv,?_⟩
   ·rcases e4 h with h | h | h
    ·exact .inl h
    ·exact .inr h
    ·exact h.elim
   ·simp only [wr,List.append_nil]
    exact hnr.le hle
  refine vc_ref14_write _ lb n c vs V _ hv hxv ⟨hs,hs,true,rdc hb 0 rfl,fun _=>⟨hs,hs,i,rdc hb 1 rfl,fun hi V1 bk a1 a2 a3=>fin V1 bk _ a1 a2 a3 (by subst hi; rfl),fun hi V2 bk a1 a2 a3=>fin V2 bk _ a1 a2 a3 (by subst hi; rfl)⟩,fun h=>by cases h⟩
 | node ln x y ihx ihy=>
  intro V p lb n c vs l hp hall hn hv hxv hnc hcv hnr hsz
  have hs:=rw_isS hp
  simp only [Tr.size] at hsz
  obtain ⟨⟨-,hbd⟩,hax,hay⟩:=hall
  obtain ⟨b,i,b1,p1,n1,c1,b2,p2,n2,c2,b3,p3,n3,c3,pl,pr,rfl,hb,hl,hx,hy⟩:=hp
  have hat:∀j v,([.bool b1,.slice p1 n1 c1,.bool b2,.slice p2 n2 c2,.bool b3,.slice p3 n3 c3]:List Value)[j]?=some v->V.at (((⟨b,2,none⟩:Addr)).add j) v:=by
   intro j v hv
   have hj:j < 6:=by
    rcases Nat.lt_or_ge j 6 with hj | hj
    ·exact hj
    ·rw [List.getElem?_eq_none (by simpa using hj)] at hv; cases hv
   have h2:(⟨b,2,none⟩:Addr)=(⟨b,0,none⟩:Addr).add 2:=by rw [add_zero']
   rw [h2,addadd,add_zero']
   refine blk_at (xs:=[_,_,_,_,_,_,_,_,_,_]) hb ?_
   match j,hj,hv with
   | 0,_,hv=>exact hv
   | 1,_,hv=>exact hv
   | 2,_,hv=>exact hv
   | 3,_,hv=>exact hv
   | 4,_,hv=>exact hv
   | 5,_,hv=>exact hv
  obtain ⟨t1,t2,t3⟩:=hbd.digs
  refine vc_ref14_write _ lb n c vs V _ hv hxv ⟨hs,hs,false,rdc hb 0 rfl,(fun h=>by cases h),fun _=>⟨hs,hs,b1,p1,n1,c1,b2,p2,n2,c2,b3,p3,n3,c3,⟨b,2,none⟩,by simp [addrAdd,add_zero'],hat 0 _ rfl,hat 1 _ rfl,hat 2 _ rfl,hat 3 _ rfl,hat 4 _ rfl,hat 5 _ rfl,fun V3 l3=>(c_ref04_ToL (hl.le l3) (by omega) (by omega) (by omega)).mono ?_⟩⟩
  rintro r V4 l4 hRL
  have hRL0:=hRL
  obtain ⟨d1,q1,m1,e1,d2,q2,m2,e2,d3,q3,m3,e3,rfl⟩:=RL_shape' hRL
  have l04:=l3.trans l4
  refine ⟨_,_,_,_,_,_,_,_,_,_,_,_,rfl,by omega,hnc,hcv,rfl,by intro v hv; simp at hv; rcases hv with rfl | rfl | rfl | rfl | rfl | rfl | rfl | rfl <;> rfl,fun sp c' g1 g2=>?_⟩
  have hb4:=l04 _ _ hb
  refine ⟨hs,hs,pl,rdc hb4 8 rfl,fun V5 l5 bk1 f1 f2=>?_⟩
  have hpush:=NR.push (sp:=sp) (x:=0) (y:=0) (hnr.le l04) (by omega) (ln:=ln) hRL0
  rw [← hn] at hpush
  generalize hrow:vs.take (n * 8)++([_,_,_,_,_,_,_,_]:List Value)++sp=row at f1 f2 hpush ⊢
  have hrl:row.length=n * 8 + 8 + sp.length:=by
   rw [← hrow]; simp only [List.length_append,List.length_take,List.length_cons,List.length_nil]; omega
  have hrne:row≠[]:=fun e=>by rw [e] at hrl; simp only [List.length_nil] at hrl; omega
  have l05:=l04.trans l5
  have i1:=ihx (V:=V5.lend [vb row V5.w.heap.size bk1]) (p:=pl) (lb:=bk1) (n:=n + 1) (c:=c') (vs:=row) (l:=l++[⟨ln,0,0⟩]) (RW.le (V:=V) (V':=V5.lend _) (fun b o h=>l05 b o h) hx) hax (by simp [hn]) f1 (fun h=>⟨by simp [vb_ne h],f2 h⟩) g1 (by omega) (NR.le (V:=V4) (V':=V5.lend _) hpush fun b o h=>l5 b o h) (by omega)
  refine i1.mono ?_
  rintro r V6 l6 ⟨bm,vm,c1',a1,a2,rfl,a5,a6,a7⟩
  have l56:V5.Le V6:=fun b o h=>l6 b o h
  have l5h:V5.Le (V6.shut.hideG (vm≠[]) bm):=le_hideG (V':=V5) l56 (View.Le.refl V5) fun h=>(a2 h).imp id fun h'=>by rw [h'.2]; exact f2 hrne
  refine ⟨bm,vm,a1,a2,none,_,_,_,rfl,hs,hs,pr,rdc ((l05.trans l5h) _ _ hb) 9 rfl,fun V7 l7 bk2 d1 d2=>?_⟩
  have hvmne:vm≠[]:=fun e=>by rw [e] at a6; simp at a6; omega
  have l07:V.Le V7:=(l05.trans l5h).trans l7
  have i2:=ihy (V:=V7.lend [vb vm V7.w.heap.size bk2]) (p:=pr) (lb:=bk2) (n:=n + 1 + x.size) (c:=c1') (vs:=vm) (l:=l++[⟨ln,0,0⟩]++wr (n + 1) x) (RW.le (V:=V) (V':=V7.lend _) (fun b o h=>l07 b o h) hy) hay (by simp [hn,wr_length]; omega) d1 (fun h=>⟨by simp [vb_ne h],d2 h⟩) a5 a6 (NR.le (V:=V6.hideG (vm≠[]) bm) (V':=V7.lend _) a7 fun b o h=>l7 b o h) (by omega)
  refine i2.mono ?_
  rintro r V8 l8 ⟨bn,vn,c2',b1',b2',rfl,b5,b6,b7⟩
  have hlen:n * 8 + 8<=vn.length:=by omega
  simp only [Int.toNat_natCast]
  refine ⟨bn,vn,b1',b2',none,_,_,_,rfl,⟨by omega,by omega⟩,b5,by omega,⟨by omega,by omega⟩,b5,by rw [List.length_set]; omega,fun V9 bk3 u1 u4 u5=>?_⟩
  have hfin:=NR.kids (V:=V8.hideG (vn≠[]) bn) (l:=l) (r:=wr (n + 1) x++wr (n + 1 + x.size) y) (ln:=ln) (u:=0) (v:=0) (x:=rt (n + 1) x) (y:=rt (n + 1 + x.size) y) (by simpa using b7)
  rw [← hn] at hfin
  refine ⟨bk3,_,c2',u4,fun h=>?_,by rw [show n + (Tr.node ln x y).size=n + 1 + x.size + y.size from by simp only [Tr.size]; omega]; rfl,by simp only [Tr.size]; omega,by simp only [List.length_set]; omega,?_⟩
  ·rcases u5 h with h | h | h
   ·exact .inl h
   ·exact .inr h
   ·exact h.elim
  ·simp only [wr]
   exact NR.le (V:=V8.hideG (vn≠[]) bn) hfin fun b o h=>u1 b o h
theorem c_ref14_Write {V:View} {p:OA} {t:Tr} (h:RW V p t) (ha:t.All Okb) (hs:t.size<=1000000) :
  Acts prog 47 #[.pointer p] V fun r V'=>AT V' r (rt 0 t) (wr 0 t):=by
 refine vc_ref14_Write p V _ fun V1 l1=>?_
 refine Acts.monoH (c_write t (V:=V1) (lb:=0) (vs:=[]) (l:=[]) (n:=0) (c:=0) (h.le l1) ha rfl (fun h=>absurd rfl h) (fun h=>absurd rfl h) (Nat.le_refl _) (Nat.le_refl _) (fun i d hd=>by simp at hd) (by omega)) ?_
 rintro r V2 l2 hH ⟨bm,vm,c',a1,a2,rfl,a5,a6,a7⟩
 refine ⟨bm,vm,a1,fun h=>(a2 h).imp id fun h'=>absurd rfl h'.1,none,_,_,_,rfl,fun V3 l3 bk hb=>?_⟩
 simp only [List.nil_append,Nat.zero_add] at a7 a5 ⊢
 have:=NS.ofRow (V:=V3) (b:=bk) (c:=c') (vm:=vm) (l:=wr 0 t) (ty:=171) hb (by rw [wr_length]; exact a5) (a7.le fun b o h=>l3 b o h)
 rw [wr_length] at this
 exact ⟨_,_,_,rfl,this⟩
end Go.Proofs.Tryz
/- Contracts: keep's moved and Shuffled, the reference's Same. -/
namespace Go.Proofs.Tryz
open Go.Eng Go.Big
theorem c_moved {V:View} (i:Int) (n b:Nat) (hn:0 < n) (hn2:n<=1000000) (hb:b < n) (hi:i<=1000000) :
  Acts prog 108 #[.int .i64 i,.int .i64 (n:Int),.int .i64 (b:Int)] V fun r V'=>r=.int .i64 (mv n b i):=by
 refine vc_keep_moved i n b V _ ⟨fun g V1 l1=>?_,fun g=>⟨by omega,fun V2 l2=>?_⟩⟩
 ·have g:=of_decide_eq_true g
  unfold mv; rw [if_pos g]
 ·have g:¬ i < 0:=of_decide_eq_false g
  obtain ⟨k,rfl⟩:∃k:Nat,i=k:=⟨i.toNat,by omega⟩
  have e1:i64.wrap ((k:Int) + b)=((k + b:Nat):Int):=by rw [i64w (by omega)]; omega
  have e2:i64.wrap ((n:Int) - 1)=(n:Int) - 1:=i64w (by omega)
  have e3:(((k + b:Nat):Int)).tmod (n:Int)=(((k + b) % n:Nat):Int):=by rw [Int.tmod_eq_emod_of_nonneg (by omega)]; rfl
  have hm:=Nat.mod_lt (k + b) hn
  rw [e1,e2,e3,i64w (by omega)]
  unfold mv
  rw [if_neg g,Int.toNat_natCast]
  unfold mvN
  congr 1
  omega
/-- One row of eight cells that holds a node. -/
def NRow (V:View) (vs:List Value) (i:Nat) (d:Nd):Prop:=∃(b1:Bool) (p1:OA) (n1 c1:Nat) (b2:Bool) (p2:OA) (n2 c2:Nat) (b3:Bool) (p3:OA) (n3 c3:Nat),
 (∀j v,([.bool b1,.slice p1 n1 c1,.bool b2,.slice p2 n2 c2,.bool b3,.slice p3 n3 c3,.int .i64 d.left,.int .i64 d.right]:List Value)[j]?=some v->vs[i * 8 + j]?=some v) /\
 RL V (.agg #[.bool b1,.slice p1 n1 c1,.bool b2,.slice p2 n2 c2,.bool b3,.slice p3 n3 c3]) d.ln.1 d.ln.2.1 d.ln.2.2
theorem NRow.le {V V':View} {vs:List Value} {i:Nat} {d:Nd} (h:NRow V vs i d) (hl:V.Le V'):NRow V' vs i d:=by
 obtain ⟨b1,p1,n1,c1,b2,p2,n2,c2,b3,p3,n3,c3,h1,h2⟩:=h
 exact ⟨b1,p1,n1,c1,b2,p2,n2,c2,b3,p3,n3,c3,h1,h2.le hl⟩
theorem put8_in {vs xs:List Value} {k j:Nat} (hx:xs.length=8) (h:k * 8 + 8<=vs.length) (hj:j < 8):(vs.take (k * 8)++xs++vs.drop (k * 8 + 8))[k * 8 + j]?=xs[j]?:=by
 have ht:(vs.take (k * 8)).length=k * 8:=by rw [List.length_take]; omega
 rw [List.append_assoc,List.getElem?_append_right (by omega),ht,Nat.add_sub_cancel_left,List.getElem?_append_left (by omega)]
theorem put8_out {vs xs:List Value} {k i:Nat} (hx:xs.length=8) (h:k * 8 + 8<=vs.length) (hi:i < k * 8 \/ k * 8 + 8<=i):(vs.take (k * 8)++xs++vs.drop (k * 8 + 8))[i]?=vs[i]?:=by
 have ht:(vs.take (k * 8)).length=k * 8:=by rw [List.length_take]; omega
 rcases hi with hi | hi
 ·rw [List.append_assoc,List.getElem?_append_left (by omega),List.getElem?_take,if_pos hi]
 ·rw [List.getElem?_append_right (by rw [List.length_append]; omega),List.length_append,ht,hx,List.getElem?_drop]
  congr 1
  omega
theorem lt8 {a b c d e f g h v:Value} {j:Nat} (hv:([a,b,c,d,e,f,g,h]:List Value)[j]?=some v):j < 8:=by
 rcases Nat.lt_or_ge j 8 with hj | hj
 ·exact hj
 ·rw [List.getElem?_eq_none (by simpa using hj)] at hv; cases hv
theorem NRow.out {V:View} {vs xs:List Value} {k i:Nat} {d:Nd} (h:NRow V vs i d) (hx:xs.length=8) (hk:k * 8 + 8<=vs.length) (hi:i≠k):NRow V (vs.take (k * 8)++xs++vs.drop (k * 8 + 8)) i d:=by
 obtain ⟨b1,p1,n1,c1,b2,p2,n2,c2,b3,p3,n3,c3,h1,h2⟩:=h
 refine ⟨b1,p1,n1,c1,b2,p2,n2,c2,b3,p3,n3,c3,fun j v hv=>?_,h2⟩
 have:=lt8 hv
 rw [put8_out hx hk (by omega)]
 exact h1 j v hv
/-! the inverse of 'moved' -/
def vm (n b m:Nat):Nat:=(n - 1 - m + (n - b)) % n
theorem vm_mv {n b j:Nat} (hb:b < n) (hj:j < n):vm n b (mvN n b j)=j:=by
 unfold vm mvN
 have h1:=Nat.mod_lt (j + b) (show 0 < n by omega)
 rw [show n - 1 - (n - 1 - (j + b) % n)=(j + b) % n from by omega,Nat.mod_add_mod,show j + b + (n - b)=j + n from by omega,Nat.add_mod_right,Nat.mod_eq_of_lt hj]
theorem mv_vm {n b m:Nat} (hb:b < n) (hm:m < n):mvN n b (vm n b m)=m:=by
 unfold vm mvN
 rw [Nat.mod_add_mod,show n - 1 - m + (n - b) + b=n - 1 - m + n from by omega,Nat.add_mod_right,Nat.mod_eq_of_lt (by omega)]
 omega
theorem c_Shuffled {V:View} {v:Value} {root:Int} {l:List Nd} (h:AT V v root l) (hl:l.length<=1000000) (hr:root<=1000000) (hc:∀d ∈ l,d.left<=1000000/\d.right<=1000000) (h0:l=[]->root < 0) (by_:Int) :
  Acts prog 46 #[v,.int .i64 by_] V fun r V'=>∃(b:Nat) (l':List Nd),AT V' r (mv l.length b root) l'/\l'.length=l.length/\(∀i d,l[i]?=some d->l'[mvN l.length b i]?=some (mvd l.length b d))/\∀x ∈ l',∃d ∈ l,x.ln=d.ln:=by
 have hh:=h
 obtain ⟨q,n,c,rfl,hns⟩:=h
 have hn:n=l.length:=hns.len
 subst hn
 refine vc_keep_Shuffled root q l.length c by_ V _ ⟨fun g V1 l1=>?_,fun g=>?_⟩
 ·have g:l.length=0:=by rw [beq_iff_eq] at g; omega
  have e:=List.eq_nil_of_length_eq_zero g
  subst e
  refine ⟨0,[],?_,rfl,fun i d hd=>by simp at hd,fun x hx=>by simp at hx⟩
  unfold mv
  rw [if_pos (h0 rfl)]
  exact hh.le l1
 have g:l.length≠0:=by rw [beq_eq_false_iff_ne] at g; omega
 clear hh h0
 have hpos:0 < l.length:=by omega
 obtain ⟨b,hb,hbn⟩:∃b:Nat,(i64.wrap (by_.tmod (l.length:Int) + (l.length:Int))).tmod (l.length:Int)=(b:Int)/\b < l.length:=by
  have m1:(by_.tmod (l.length:Int)).natAbs < l.length:=by rw [Int.natAbs_tmod,Int.natAbs_natCast]; exact Nat.mod_lt _ hpos
  rw [i64w (by omega),Int.tmod_eq_emod_of_nonneg (by omega)]
  have m2:=Int.emod_lt_of_pos (by_.tmod (l.length:Int) + (l.length:Int)) (show (0:Int) < (l.length:Int) by omega)
  have m3:=Int.emod_nonneg (by_.tmod (l.length:Int) + (l.length:Int)) (show (l.length:Int)≠0 by omega)
  exact ⟨((by_.tmod (l.length:Int) + (l.length:Int)) % (l.length:Int)).toNat,by omega,by omega⟩
 rw [hb,Int.toNat_natCast]
 generalize hN:l.length=N at *
 refine ⟨by omega,by omega,by omega,by omega,by omega,fun V2 l2=>(c_moved root N b hpos hl hbn hr).mono ?_⟩
 rintro r V3 l3 rfl
 refine ⟨_,rfl,fun (z:Int × List Value) V'=>∃i:Nat,z.1=i/\i<=N/\z.2.length=N * 8/\∀j d,j < i->l[j]?=some d->NRow V' z.2 (mvN N b j) (mvd N b d),fun z=>(N - z.1).toNat,⟨(0,zrow N [.bool false,.slice none 0 0,.bool false,.slice none 0 0,.bool false,.slice none 0 0,.int .i64 0,.int .i64 0]),by (try dsimp only); and_intros <;> trivial,0,rfl,by omega,?_,fun j d hj=>by omega⟩,?_⟩
 ·dsimp only
  rw [zrow_eq,List.length_flatten,List.map_replicate,List.sum_replicate_nat]; rfl
 rintro ⟨_,vs⟩ V4 l4 ⟨i,rfl,hi,hlen,hrow⟩
 dsimp only at hlen hrow ⊢
 refine ⟨rfl,fun g=>?_,fun g V11 l11 bk hbk=>?_⟩
 ·have g:i < N:=by have:=of_decide_eq_true g; omega
  have hget:l[i]?=some (l[i]'(by omega)):=List.getElem?_eq_getElem (by omega)
  generalize l[i]'(by omega)=d at hget
  obtain ⟨b1,p1,n1,c1,b2,p2,n2,c2,b3,p3,n3,c3,a,ha,a0,a1,a2,a3,a4,a5,a6,a7,hL⟩:=(hns.le (l2.trans (l3.trans l4))).rd hget
  obtain ⟨hc1,hc2⟩:=hc d (List.mem_of_getElem? hget)
  have hi1:i64.wrap ((i:Int) + 1)=((i + 1:Nat):Int):=by rw [i64w (by omega)]; omega
  rw [Int.toNat_natCast,hi1]
  refine ⟨hns.isS (by omega),⟨by omega,by omega⟩,b1,p1,n1,c1,b2,p2,n2,c2,b3,p3,n3,c3,d.left,d.right,a,ha,a0,a1,a2,a3,a4,a5,a6,a7,fun V5 l5=>(c_moved (i:Int) N b hpos hl hbn (by omega)).mono ?_⟩
  rintro r V6 l6 rfl
  refine ⟨_,rfl,fun V7 l7=>(c_moved d.left N b hpos hl hbn hc1).mono ?_⟩
  rintro r V8 l8 rfl
  refine ⟨_,rfl,fun V9 l9=>(c_moved d.right N b hpos hl hbn hc2).mono ?_⟩
  rintro r V10 l10 rfl
  have hmi:mv N b (i:Int)=((mvN N b i:Nat):Int):=by unfold mv; rw [if_neg (by omega),Int.toNat_natCast]
  have hlt:=mvN_lt (b:=b) (i:=i) hpos
  rw [hmi,Int.toNat_natCast]
  have l410:=l5.trans (l6.trans (l7.trans (l8.trans (l9.trans l10))))
  refine ⟨_,rfl,⟨by omega,by omega⟩,by omega,⟨(((i + 1:Nat):Int),setVals vs (0 + mvN N b i * 8) [.bool b1,.slice p1 n1 c1,.bool b2,.slice p2 n2 c2,.bool b3,.slice p3 n3 c3,.int .i64 (mv N b d.left),.int .i64 (mv N b d.right)]),by dsimp only; omega,by (try dsimp only); and_intros <;> trivial,i + 1,rfl,by omega,?_,?_⟩⟩
  ·dsimp only
   rw [setVals_eq (by simp only [List.length_cons,List.length_nil]; omega)]
   simp only [List.length_append,List.length_take,List.length_drop,List.length_cons,List.length_nil]
   omega
  ·dsimp only
   intro j d' hj hd'
   rw [setVals_eq (by simp only [List.length_cons,List.length_nil]; omega),Nat.zero_add]
   by_cases hji:j=i
   ·subst hji
    rw [hget] at hd'
    cases hd'
    exact ⟨b1,p1,n1,c1,b2,p2,n2,c2,b3,p3,n3,c3,fun k v hv=>(put8_in rfl (by omega) (lt8 hv)).trans hv,hL.le l410⟩
   ·refine ((hrow j d' (by omega) hd').le l410).out rfl (by omega) fun e=>hji ?_
    exact mvN_inj (by omega) g e
 ·have g:i=N:=by have:=of_decide_eq_false g; omega
  subst g
  have hfull:∀m,m < i->∃d,l[vm i b m]?=some d:=fun m hm=>⟨_,List.getElem?_eq_getElem (by rw [hN]; exact Nat.mod_lt _ (by omega))⟩
  have hvl:∀m,vm i b m < l.length:=fun m=>by rw [hN]; exact Nat.mod_lt _ (by omega)
  have hget':∀m d,((List.range i).map fun m=>mvd i b (l[vm i b m]'(hvl m)))[m]?=some d->m < i/\∃d0,l[vm i b m]?=some d0/\d=mvd i b d0:=by
   intro m d hd
   rcases Nat.lt_or_ge m i with hm | hm
   ·rw [List.getElem?_map,List.getElem?_range hm,Option.map_some] at hd
    cases hd
    exact ⟨hm,_,List.getElem?_eq_getElem (hvl m),rfl⟩
   ·rw [List.getElem?_eq_none (by simpa using hm)] at hd; cases hd
  refine ⟨b,(List.range i).map fun m=>mvd i b (l[vm i b m]'(hvl m)),⟨_,_,_,rfl,?_,Nat.le_refl _,⟨vs,fun k v hv=>⟨_,rfl,by rw [add_zero']; exact blk_at hbk hv⟩,?_⟩,fun e=>by cases e⟩,by simp,?_,?_⟩
  ·simp
  ·intro m d hd
   obtain ⟨hm,d0,e1,rfl⟩:=hget' m d hd
   have:=(hrow (vm i b m) d0 (by have:=hvl m; omega) e1).le l11
   rw [mv_vm hbn hm] at this
   exact this
  ·intro j d hd
   have hj:j < i:=by
    rcases Nat.lt_or_ge j l.length with h | h
    ·omega
    ·rw [List.getElem?_eq_none h] at hd; cases hd
   have hlt:=mvN_lt (b:=b) (i:=j) hpos
   rw [List.getElem?_map,List.getElem?_range hlt,Option.map_some]
   congr 2
   have:l[vm i b (mvN i b j)]?=some d:=by rw [vm_mv hbn hj]; exact hd
   rw [List.getElem?_eq_getElem (hvl _)] at this
   exact Option.some.inj this
  ·intro x hx
   obtain ⟨m,hm⟩:=List.getElem?_of_mem hx
   obtain ⟨-,d0,e1,rfl⟩:=hget' m x hm
   exact ⟨d0,List.mem_of_getElem? e1,rfl⟩
end Go.Proofs.Tryz
/- A new block that is handed back; scene.New. -/
namespace Go.Proofs.Tryz
open Go.Eng Go.Big
/-- All that is there is hidden. -/
def hideAll (V:View):View:=⟨V.w,fun b=>b < V.w.heap.size,fun _=>False,fun _ h=>h,fun _ h=>h.elim⟩
/-- A block that is seen when all was hidden is new. -/
theorem acts_fresh {f:FuncId} {args:Array Value} {V:View} {o:Obj} (h:Acts prog f args (hideAll V) fun r V'=>∃bk,r=.pointer (some ⟨bk,0,none⟩)/\V'.blk bk o) :
  Acts prog f args V fun r V'=>∃bk,r=.pointer (some ⟨bk,0,none⟩)/\V.w.heap.size<=bk/\V'.blk bk o:=
 ⟨h.1,h.2.mono fun _ _ ⟨_,he,hx,bk,hr,hb⟩=>⟨_,he,⟨hx.size,fun b hb _=>hx.blk b hb (fun h=>h),hx.os,hx.tape,hx.out⟩,bk,hr,Nat.le_of_not_lt hb.1,fun hh=>hb.1 (V.hH bk hh),hb.2⟩⟩
theorem c_scene_New {V:View} {lp:OA} {ln lc:Nat} (hc:ln<=lc) :
  Acts prog 10 #[.slice lp ln lc] V fun r V'=>∃bk,r=.pointer (some ⟨bk,0,none⟩)/\V.w.heap.size<=bk/\V'.blk bk (.cells #[.slice lp (min ln 400) lc,.int .i64 0] 107 (0,0)):=by
 refine acts_fresh (vc_scene_New lp ln lc (hideAll V) _ ?_)
 have e:minI (ln:Int) 400=((min ln 400:Nat):Int):=by
  unfold minI
  simp only [Nat.min_def]
  split <;> split <;> omega
 rw [e,Int.toNat_natCast]
 have:=Nat.min_le_left ln 400
 exact ⟨⟨by omega,by omega⟩,fun V1 l1 bk hb=>⟨bk,rfl,hb⟩⟩
end Go.Proofs.Tryz
/- The law TreeOrders, in views. -/
namespace Go.Proofs.Tryz
open Go.Eng Go.Big
theorem rt_le (k:Nat) (t:Tr):rt k t<=k:=by
 cases t with
 | leaf i=>unfold rt; split <;> omega
 | node l a b=>exact Int.le_refl _
theorem wr_kids:∀(t:Tr) (k:Nat),∀d ∈ wr k t,d.left<=k + t.size/\d.right<=k + t.size
 | .leaf _,k,d,h=>by simp [wr] at h
 | .node l a b,k,d,h=>by
  have r1:=rt_le (k + 1) a
  have r2:=rt_le (k + 1 + a.size) b
  simp only [wr,List.mem_cons,List.mem_append] at h
  simp only [Tr.size]
  rcases h with rfl | h | h
  ·dsimp only; omega
  ·have:=wr_kids a _ d h; omega
  ·have:=wr_kids b _ d h; omega
theorem rt_neg {t:Tr} (h:wr 0 t=[]):rt 0 t < 0:=by
 cases t with
 | leaf i=>cases i <;> decide
 | node l a b=>simp [wr] at h
theorem okb_okL {t:Tr} (h:t.All Okb):t.All fun x=>okL x=true:=Tr.All.imp (fun _ h=>h.1) h
theorem okb_bd {t:Tr} (h:t.All Okb):t.All Bd:=Tr.All.imp (fun _ h=>h.2) h
end Go.Proofs.Tryz
/- Lists of any element: as they lie in an own row, and in memory. -/
namespace Go.Eng
theorem adr_add2 (a:Addr) (m n:Nat):(a.add m).add n=a.add (m + n):=by
 unfold Addr.add
 by_cases h1:m=0
 ·subst h1; simp
 ·by_cases h2:n=0
  ·subst h2; simp [h1]
  ·rw [if_neg h1,if_neg h2,if_neg (by omega)]
   simp only [Nat.add_assoc]
variable {α:Type} {sz:Nat} {R:View->Value->α->Prop} {V V':View}
/-- The first cells of a row are the elements of a list. -/
structure Row (sz:Nat) (R:View->Value->α->Prop) (V:View) (vs:List Value) (al:List α):Prop where
 at_:∀(i:Nat) (h:i < al.length),∃xs:List Value,xs.length=sz/\R V (.agg xs.toArray) al[i]/\∀j x,xs[j]?=some x->vs[i * sz + j]?=some x
/-- The elements of a list lie one behind the other. -/
structure Lst (sz:Nat) (R:View->Value->α->Prop) (V:View) (p:OA) (n:Nat) (al:List α):Prop where
 len:n=al.length
 at_:∀(i:Nat) (h:i < al.length),∃ad,addrAdd p (i * sz)=some ad/\∃xs:List Value,xs.length=sz/\R V (.agg xs.toArray) al[i]/\∀j x,xs[j]?=some x->V.at (ad.add j) x
theorem Row.nil {vs:List Value}:Row sz R V vs []:=⟨fun i h=>absurd h (Nat.not_lt_zero i)⟩
theorem Lst.nil {p:OA}:Lst sz R V p 0 []:=⟨rfl,fun i h=>absurd h (Nat.not_lt_zero i)⟩
theorem Row.le {vs:List Value} {al:List α} (h:Row sz R V vs al) (m:∀v a,R V v a->R V' v a):Row sz R V' vs al:=
 ⟨fun i hi=>by obtain ⟨xs,h1,h2,h3⟩:=h.at_ i hi; exact ⟨xs,h1,m _ _ h2,h3⟩⟩
theorem Lst.le {p:OA} {n:Nat} {al:List α} (h:Lst sz R V p n al) (l:V.Le V') (m:∀v a,R V v a->R V' v a):Lst sz R V' p n al:=
 ⟨h.len,fun i hi=>by obtain ⟨ad,h0,xs,h1,h2,h3⟩:=h.at_ i hi; exact ⟨ad,h0,xs,h1,m _ _ h2,fun j x hx=>l.at (h3 j x hx)⟩⟩
theorem Row.len_le {vs:List Value} {al:List α} (h:Row sz R V vs al) (hs:0 < sz):al.length * sz<=vs.length:=by
 by_cases h0:al.length=0
 ·rw [h0]; omega
 ·obtain ⟨xs,h1,-,h3⟩:=h.at_ (al.length - 1) (by omega)
  have hx:sz - 1 < xs.length:=by omega
  have:=(List.getElem?_eq_some_iff.1 (h3 (sz - 1) _ (List.getElem?_eq_getElem hx))).1
  have e:al.length * sz=(al.length - 1) * sz + sz:=by
   obtain ⟨m,hm⟩:∃m,al.length=m + 1:=⟨al.length - 1,by omega⟩
   rw [hm,Nat.add_sub_cancel,Nat.succ_mul]
  omega
/-- One more element at the end, al 'append' lays it. -/
theorem Row.snoc {vs:List Value} {al:List α} (h:Row sz R V vs al) {xs sp:List Value} {a:α} (hx:xs.length=sz) (ha:R V (.agg xs.toArray) a) (hs:0 < sz) :
  Row sz R V (vs.take (al.length * sz)++xs++sp) (al++[a]):=by
 have hl:=h.len_le hs
 have ht:(vs.take (al.length * sz)).length=al.length * sz:=by rw [List.length_take]; omega
 refine ⟨fun i hi=>?_⟩
 rw [List.length_append,List.length_singleton] at hi
 by_cases e:i=al.length
 ·subst e
  refine ⟨xs,hx,by rw [List.getElem_append_right (Nat.le_refl _)]; simpa using ha,fun j x hj=>?_⟩
  have hj':=(List.getElem?_eq_some_iff.1 hj).1
  rw [List.append_assoc,List.getElem?_append_right (by rw [ht]; omega),ht,Nat.add_sub_cancel_left,List.getElem?_append_left hj']
  exact hj
 ·have hi':i < al.length:=by omega
  obtain ⟨ys,y1,y2,y3⟩:=h.at_ i hi'
  refine ⟨ys,y1,by rw [List.getElem_append_left hi']; exact y2,fun j x hj=>?_⟩
  have hj':=(List.getElem?_eq_some_iff.1 hj).1
  have hlt:i * sz + j < al.length * sz:=by
   have:(i + 1) * sz<=al.length * sz:=Nat.mul_le_mul_right _ hi'
   rw [Nat.succ_mul] at this
   omega
  rw [List.append_assoc,List.getElem?_append_left (by rw [ht]; exact hlt),List.getElem?_take,if_pos hlt]
  exact y3 j x hj
/-- A row that became memory. -/
theorem Lst.of_row {bk:Nat} {ty:TypeId} {m:Nat × Nat} {vs:List Value} {al:List α} (hb:V.blk bk (.cells vs.toArray ty m)) (h:Row sz R V vs al):Lst sz R V (some ⟨bk,0,none⟩) al.length al:=by
 refine ⟨rfl,fun i hi=>?_⟩
 obtain ⟨xs,h1,h2,h3⟩:=h.at_ i hi
 refine ⟨⟨bk,i * sz,none⟩,by simp [addrAdd,add_zero'],xs,h1,h2,fun j x hj=>?_⟩
 have e:(⟨bk,i * sz,none⟩:Addr).add j=⟨bk,i * sz + j,none⟩:=by rw [← add_zero',adr_add2,add_zero']
 rw [e]
 exact blk_at hb (h3 j x hj)
/-- The same for a slice that may be nil. -/
theorem Lst.of_mrow {bk c:Nat} {ty:TypeId} {m:Nat × Nat} {vs:List Value} {al:List α} (hb:vs≠[]->V.blk bk (.cells vs.toArray ty m)) (h:Row sz R V vs al) (hs:0 < sz) (hc:al.length<=c):Lst sz R V (mA bk c) al.length al:=by
 cases al with
 | nil=>exact Lst.nil
 | cons a r=>
  have hne:vs≠[]:=fun e=>by
   have:=h.len_le hs
   rw [e,List.length_cons,Nat.succ_mul] at this
   simp at this; omega
  have:mA bk c=some ⟨bk,0,none⟩:=by unfold mA; rw [if_neg]; rw [List.length_cons] at hc; omega
  rw [this]
  exact Lst.of_row (hb hne) h
end Go.Eng
/- Rows: an element put into a row, rows joined; the cells of a list in memory. -/
namespace Go.Proofs.Tryz
open Go.Eng Go.Big
theorem row_one {α:Type} {sz:Nat} {R:View->Value->α->Prop} {V:View} {xs:List Value} {a:α} (hx:xs.length=sz) (ha:R V (.agg xs.toArray) a):Row sz R V xs [a]:=by
 refine ⟨fun i hi=>?_⟩
 obtain rfl:i=0:=by simpa using hi
 exact ⟨xs,hx,ha,fun j x hj=>by rw [Nat.zero_mul,Nat.zero_add]; exact hj⟩
theorem row_insert {α:Type} {sz:Nat} {R:View->Value->α->Prop} {V:View} {vs:List Value} {ls:List α} (h:Row sz R V vs ls) {k:Nat} (hk:k<=ls.length) {xs sp:List Value} {a:α} (hx:xs.length=sz) (ha:R V (.agg xs.toArray) a) (hs:0 < sz) :
  Row sz R V (vs.take (k * sz)++(xs++(vs.take (ls.length * sz)).drop (k * sz))++sp) (ls.take k++a :: ls.drop k):=by
 have hl:=h.len_le hs
 have hks:k * sz<=ls.length * sz:=Nat.mul_le_mul_right _ hk
 have t1:(vs.take (k * sz)).length=k * sz:=by rw [List.length_take]; omega
 have t2:((vs.take (ls.length * sz)).drop (k * sz)).length=ls.length * sz - k * sz:=by rw [List.length_drop,List.length_take]; omega
 have a1:(ls.take k).length=k:=by rw [List.length_take]; omega
 refine ⟨fun i hi=>?_⟩
 rw [List.append_assoc]
 by_cases c1:i < k
 ·have hi':i < ls.length:=by omega
  obtain ⟨ys,y1,y2,y3⟩:=h.at_ i hi'
  have e:(ls.take k++a :: ls.drop k)[i]=ls[i]:=by rw [List.getElem_append_left (by omega),List.getElem_take]
  refine ⟨ys,y1,by rw [e]; exact y2,fun j x hj=>?_⟩
  have hj':=(List.getElem?_eq_some_iff.1 hj).1
  have hlt:i * sz + j < k * sz:=by
   have:(i + 1) * sz<=k * sz:=Nat.mul_le_mul_right _ c1
   rw [Nat.succ_mul] at this
   omega
  rw [List.getElem?_append_left (by omega),List.getElem?_take,if_pos hlt]
  exact y3 j x hj
 ·by_cases c2:i=k
  ·subst c2
   have e:(ls.take i++a :: ls.drop i)[i]=a:=by
    rw [List.getElem_append_right (by omega)]
    simp [a1]
   refine ⟨xs,hx,by rw [e]; exact ha,fun j x hj=>?_⟩
   have hj':=(List.getElem?_eq_some_iff.1 hj).1
   rw [List.getElem?_append_right (by omega),t1,Nat.add_sub_cancel_left,List.append_assoc,List.getElem?_append_left hj']
   exact hj
  ·have hi':i - 1 < ls.length:=by
    rw [List.length_append,a1,List.length_cons,List.length_drop] at hi
    omega
   obtain ⟨ys,y1,y2,y3⟩:=h.at_ (i - 1) hi'
   have e:(ls.take k++a :: ls.drop k)[i]=ls[i - 1]:=by
    rw [List.getElem_append_right (by omega)]
    obtain ⟨m,hm⟩:∃m,i=k + (m + 1):=⟨i - k - 1,by omega⟩
    subst hm
    simp only [a1,Nat.add_sub_cancel_left,List.getElem_cons_succ,List.getElem_drop]
    congr 1
   refine ⟨ys,y1,by rw [e]; exact y2,fun j x hj=>?_⟩
   have hj':=(List.getElem?_eq_some_iff.1 hj).1
   obtain ⟨m,hm⟩:∃m,i=k + 1 + m:=⟨i - k - 1,by omega⟩
   subst hm
   have e1:(k + 1 + m) * sz=k * sz + sz + m * sz:=by rw [Nat.add_mul,Nat.add_mul,Nat.one_mul]
   have e2:(k + 1 + m - 1) * sz=k * sz + m * sz:=by rw [show k + 1 + m - 1=k + m by omega,Nat.add_mul]
   have:=y3 j x hj
   rw [e2] at this
   have hlt:k * sz + m * sz + j < ls.length * sz:=by
    have:(k + m + 1) * sz<=ls.length * sz:=Nat.mul_le_mul_right _ (by omega)
    rw [Nat.add_mul,Nat.add_mul,Nat.one_mul] at this
    omega
   rw [List.getElem?_append_right (by omega),t1,List.append_assoc,List.getElem?_append_right (by omega),hx,List.getElem?_append_left (by omega),List.getElem?_drop,List.getElem?_take,if_pos (by omega)]
   rw [show k * sz + ((k + 1 + m) * sz + j - k * sz - sz)=k * sz + m * sz + j by omega]
   exact this
theorem lst_cells {α:Type} {sz:Nat} {R:View->Value->α->Prop} {V:View} {p:OA} {n:Nat} {ls:List α} (h:Lst sz R V p n ls) (hs:0 < sz):∃xs:List Value,V.sl p xs/\xs.length=ls.length * sz/\Row sz R V xs ls:=by
 have step:∀k,k<=ls.length->∃xs:List Value,V.sl p xs/\xs.length=k * sz/\Row sz R V xs (ls.take k):=by
  intro k
  induction k with
  | zero=>exact fun _=>⟨[],fun i v hv=>by simp at hv,by simp,by rw [List.take_zero]; exact Row.nil⟩
  | succ k ih=>
   intro hk
   obtain ⟨xs,x1,x2,x3⟩:=ih (by omega)
   obtain ⟨ad,ha,ys,y1,y2,y3⟩:=h.at_ k (by omega)
   have hl:(ls.take k).length=k:=by rw [List.length_take]; omega
   refine ⟨xs++ys,fun i v hv=>?_,by rw [List.length_append,x2,y1,Nat.succ_mul],?_⟩
   ·by_cases c:i < xs.length
    ·rw [List.getElem?_append_left c] at hv; exact x1 i v hv
    ·rw [List.getElem?_append_right (by omega)] at hv
     cases p with
     | none=>cases ha
     | some a=>
      obtain rfl:=Option.some.inj (show some (a.add (k * sz))=some ad from ha)
      have:=y3 _ v hv
      rw [adr_add2,x2] at this
      rw [show k * sz + (i - k * sz)=i by omega] at this
      exact ⟨a,rfl,this⟩
   ·have:=x3.snoc (sp:=[]) y1 y2 hs
    rw [hl,List.append_nil,List.take_of_length_le (by omega)] at this
    rw [List.take_add_one,List.getElem?_eq_getElem (by omega)]
    exact this
 obtain ⟨xs,x1,x2,x3⟩:=step ls.length (Nat.le_refl _)
 rw [List.take_length] at x3
 exact ⟨xs,x1,x2,x3⟩
theorem row_append {α:Type} {sz:Nat} {R:View->Value->α->Prop} {V:View} {vs xs sp:List Value} {ls ms:List α} (h:Row sz R V vs ls) (h':Row sz R V xs ms) (hs:0 < sz):Row sz R V (vs.take (ls.length * sz)++xs++sp) (ls++ms):=by
 have hl:=h.len_le hs
 have hl':=h'.len_le hs
 have ht:(vs.take (ls.length * sz)).length=ls.length * sz:=by rw [List.length_take]; omega
 refine ⟨fun i hi=>?_⟩
 by_cases c:i < ls.length
 ·obtain ⟨ys,y1,y2,y3⟩:=h.at_ i c
  refine ⟨ys,y1,by rw [List.getElem_append_left c]; exact y2,fun j x hj=>?_⟩
  have hj':=(List.getElem?_eq_some_iff.1 hj).1
  have hlt:i * sz + j < ls.length * sz:=by
   have:(i + 1) * sz<=ls.length * sz:=Nat.mul_le_mul_right _ c
   rw [Nat.succ_mul] at this
   omega
  rw [List.append_assoc,List.getElem?_append_left (by omega),List.getElem?_take,if_pos hlt]
  exact y3 j x hj
 ·rw [List.length_append] at hi
  obtain ⟨m,rfl⟩:∃m,i=ls.length + m:=⟨i - ls.length,by omega⟩
  have hm:m < ms.length:=by omega
  obtain ⟨ys,y1,y2,y3⟩:=h'.at_ m hm
  refine ⟨ys,y1,?_,fun j x hj=>?_⟩
  ·have e:(ls++ms)[ls.length + m]=ms[m]:=by rw [List.getElem_append_right (by omega)]; simp
   rw [e]; exact y2
  ·have hj':=(List.getElem?_eq_some_iff.1 hj).1
   have hlt:m * sz + j < xs.length:=by
    have:(m + 1) * sz<=ms.length * sz:=Nat.mul_le_mul_right _ hm
    rw [Nat.succ_mul] at this
    omega
   rw [List.append_assoc,List.getElem?_append_right (by rw [ht,Nat.add_mul]; omega),ht,Nat.add_mul,List.getElem?_append_left (by omega)]
   rw [show ls.length * sz + m * sz + j - ls.length * sz=m * sz + j by omega]
   exact y3 j x hj
/-- Every cell of a row is one cell. -/
theorem row_one_cell {α:Type} {sz:Nat} {R:View->Value->α->Prop} {V:View} {vs:List Value} {al:List α} (h:Row sz R V vs al) (hs:0 < sz) (hc:∀xs a,R V (.agg (List.toArray xs)) a->∀v ∈ xs,v.oneCell'=true) {m:Nat} (hm:m < al.length * sz) {v:Value} (hv:vs[m]?=some v):v.oneCell'=true:=by
 have hi:m / sz < al.length:=Nat.div_lt_of_lt_mul (by rw [Nat.mul_comm]; exact hm)
 obtain ⟨xs,hl,hx,hat⟩:=h.at_ (m / sz) hi
 have hlt:m % sz < xs.length:=by rw [hl]; exact Nat.mod_lt _ hs
 have e3:m=m / sz * sz + m % sz:=by rw [Nat.mul_comm]; exact (Nat.div_add_mod m sz).symm
 have:=hat (m % sz) _ (List.getElem?_eq_getElem hlt)
 rw [← e3,hv] at this
 obtain rfl:=Option.some.inj this
 exact hc xs _ hx _ (List.getElem_mem hlt)
end Go.Proofs.Tryz
/- Any row as it grows. -/
namespace Go.Proofs.Tryz
open Go.Eng Go.Big
/-- Any row as it grows. -/
structure GR {α:Type} (sz:Nat) (R:View->Value->α->Prop) (V:View) (n c:Nat) (vs:List Value) (l:List α):Prop where
 len:n=l.length
 le:n<=c
 cap:c * sz<=vs.length
 row:Row sz R V vs l
theorem GR.nil {α:Type} {sz:Nat} {R:View->Value->α->Prop} {V:View}:GR sz R V 0 0 [] []:=⟨rfl,Nat.le_refl _,by simp,Row.nil⟩
theorem GR.mono {α:Type} {sz:Nat} {R:View->Value->α->Prop} {V V':View} {n c:Nat} {vs:List Value} {l:List α} (h:GR sz R V n c vs l) (m:∀v a,R V v a->R V' v a):GR sz R V' n c vs l:=⟨h.len,h.le,h.cap,h.row.le m⟩
theorem GR.snoc {α:Type} {sz:Nat} {R:View->Value->α->Prop} {V:View} {n c:Nat} {vs:List Value} {l:List α} (h:GR sz R V n c vs l) {xs:List Value} {a:α} (hx:xs.length=sz) (ha:R V (.agg xs.toArray) a) (h0:0 < sz) {sp:List Value} {c':Nat} (h1:n + 1<=c') (h2:c' * sz<=(n + 1) * sz + sp.length) :
  GR sz R V (n + 1) c' (vs.take (n * sz)++xs++sp) (l++[a]):=by
 have hn:=h.len
 have hc:=h.cap
 have hl:n * sz<=c * sz:=Nat.mul_le_mul_right _ h.le
 refine ⟨by rw [List.length_append,hn]; rfl,h1,?_,?_⟩
 ·have ht:(vs.take (n * sz)).length=n * sz:=by rw [List.length_take]; omega
  rw [List.length_append,List.length_append,ht,hx]
  rw [Nat.succ_mul] at h2
  exact h2
 ·have:=h.row.snoc (sp:=sp) hx ha h0
  rw [← hn] at this
  exact this
end Go.Proofs.Tryz
/- By program: the conditions of the functions, from their loaded code. -/
namespace Go.Proofs.Tryz
open Go.Eng
open Go.Value renaming int→I,pointer→P,slice→S,agg→A,bool→B,tuple→T
open Go.IntKind renaming i64→J,u64→U,u32→W
set_option maxRecDepth 100000
theorem vc_bsp_T_Depth (a:OA) (V:View) (R:VR) (h:(Ca V 115 #[P a] fun n b=>∃c,n=B c/\((c=true->(Rt b R (I J 0)))/\(c=false->(a.isSome=true)/\(a.isSome=true)/\(∃e,(∃f,addrAdd a 9=some f/\b.at f (P e))/\(a.isSome=true)/\(a.isSome=true)/\(∃g,(∃i,addrAdd a 10=some i/\b.at i (P g))/\(Ca b 112 #[P e] fun o p=>∃k,o=I J k/\(Ca p 112 #[P g] fun q r=>∃l,q=I J l/\(Rt r R (I J (J.wrap ((1:Int) + (maxI k l))))))))))))):
 Acts prog 112 #[P a] V R:=
 fd (LF:=LF0) (RF:=[1000010]) [] [] func112 h
theorem vc_tree_Size (d:Int) (e:OA) (a f:Nat) (V:View) (R:VR) (h:(Ca V 110 #[A #[I J d,S e a f]] fun m b=>∃c,m=B c/\(((!c)=true->(∃g,(∃i,(some ⟨1,0,none⟩:OA)=some i/\b.at i (g))/\(Rt b R (T #[I J 0,g]))))/\((!c)=false->(Rt b R (T #[I J (a:Int),.nilIface])))))):
 Acts prog 48 #[A #[I J d,S e a f]] V R:=
 fd (LF:=LF0) (RF:=[1000010]) [] [] func48 h
theorem vc_tree_Depth (c:Int) (d:OA) (e f:Nat) (V:View) (R:VR) (h:(Ca V 111 #[A #[I J c,S d e f]] fun o a=>∃g,∃b,o=T #[P g,B b]/\(((!b)=true->(∃i,(∃k,(some ⟨1,0,none⟩:OA)=some k/\a.at k (i))/\(Rt a R (T #[I J 0,i]))))/\((!b)=false->(Ca a 112 #[P g] fun p q=>∃m,p=I J m/\(Rt q R (T #[I J m,.nilIface]))))))):
 Acts prog 49 #[A #[I J c,S d e f]] V R:=
 fd (LF:=LF0) (RF:=[1000010]) [] [] func49 h
theorem vc_tree_Leaves_1 (b:OA) (a:Nat) (d e:Int) (V:View) (R:VR) (hw100000:V.w.heap[a]?=some (.cells #[I J d,I J e] 179 (0,0))) (hx100000:V.X a) (h:(Ca V 115 #[P b] fun u f=>∃g,u=B g/\((g=true->(b.isSome=true)/\(b.isSome=true)/\(∃i,(∃r,addrAdd b 11=some r/\f.at r (B i))/\((i=true->(0<=(1:Int)/\(1:Int) < (2:Int))/\(0<=(1:Int)/\(1:Int) < (2:Int))/\(∀k,f.Le k->k.w.heap[a]?=some (.cells #[I J d,I J (J.wrap (e + (1:Int)))] 179 (0,0))->R (T #[]) k))/\(i=false->(Ca f 115 #[P b] fun x s=>∃l,x=B l/\((l=true->(0<=(0:Int)/\(0:Int) < (2:Int))/\(0<=(0:Int)/\(0:Int) < (2:Int))/\(∀m,s.Le m->m.w.heap[a]?=some (.cells #[I J (J.wrap (d + (1:Int))),I J e] 179 (0,0))->R (T #[]) m))/\(l=false->(∀n,s.Le n->n.w.heap[a]?=some (.cells #[I J d,I J e] 179 (0,0))->R (T #[]) n))))))))/\(g=false->(Ca f 115 #[P b] fun y t=>∃o,y=B o/\((o=true->(0<=(0:Int)/\(0:Int) < (2:Int))/\(0<=(0:Int)/\(0:Int) < (2:Int))/\(∀p,t.Le p->p.w.heap[a]?=some (.cells #[I J (J.wrap (d + (1:Int))),I J e] 179 (0,0))->R (T #[]) p))/\(o=false->(∀q,t.Le q->q.w.heap[a]?=some (.cells #[I J d,I J e] 179 (0,0))->R (T #[]) q)))))))):
 Acts prog 114 #[P b,P (some ⟨a,0,none⟩)] V R:=
 fn_does (LF:=LF0) (RF:=[1000010]) (β0:=(upd1 (fun _=>0) 100000 a)) tab_ok mixed [] [] func114 (by kernel_rfl) [(0,.c (.v (P b))),(1,.c (.ptr 100000 0))] [(100000,⟨.lit [.v (I J d),.v (I J e)],179⟩)] (by kernel_rfl) ⟨⟨hw100000,hx100000⟩,trivial,trivial⟩ h (by kernel_rfl)
theorem vc_bsp_T_Each_Leaves (r:OA) (i:Nat) (s t:Int) (V:View) (R:VR) (hw100000:V.w.heap[i]?=some (.cells #[I J s,I J t] 179 (0,0))) (hx100000:V.X i) (h:(∃l:(Nat × Nat × (List Value) × Int × Int)->Nat->VP,(∃(d:Nat × Nat × (List Value) × Int × Int) (a9:Nat),(((114:FuncId)=114)/\sm 0/\((1:Nat)=d.1)/\((1:Nat)=d.2.1)/\((1:Nat)≠0)/\(s=d.2.2.2.1)/\(t=d.2.2.2.2)/\(([P r]:List Value)=d.2.2.1))/\l d a9 V)/\∀(a:Nat × Nat × (List Value) × Int × Int) (u:Nat) (m:View),V.Le m->l a u m->(true=true/\(((decide (((a.1:Nat):Int) > (0:Int)))=true->(0<=(J.wrap (((a.1:Nat):Int)-1))/\(J.wrap (((a.1:Nat):Int)-1)) < ((a.1:Nat):Int))/\(a.1<=a.2.1)/\(∃b,a.2.2.1[((J.wrap (((a.1:Nat):Int)-1)).toNat) * 1]?=some (P b)/\(0<=(J.wrap (((a.1:Nat):Int)-1))/\(J.wrap (((a.1:Nat):Int)-1))<=((a.2.1:Nat):Int))/\(∀n,m.Le n->∀k:Nat,(n.w.heap[k]?=some (.cells #[I J a.2.2.2.1,I J a.2.2.2.2] 179 (0,0)))->(n.H k)->Acts prog 114 #[P b,P (some ⟨k,0,none⟩)] (n.lend [k]) fun b0 a2=> b0=T #[]/\∃x,∃y,a2.w.heap[k]?=some (.cells #[I J x,I J y] 179 (0,0))/\(∀a3,a2.shut.Le a3->Acts prog 115 #[P b] a3 fun b1 o=>∃z,b1=B z/\(((!z)=true->(b.isSome=true)/\(b.isSome=true)/\(∃p,(∃a4,addrAdd b 10=some a4/\o.at a4 (P p))/\(b.isSome=true)/\(b.isSome=true)/\(∃q,(∃a5,addrAdd b 9=some a5/\o.at a5 (P q))/\((((J.wrap (((a.1:Nat):Int)-1)).toNat) + 2) * 8<=140737488355328/\(J.wrap (((a.1:Nat):Int)-1)).toNat<=a.2.1/\a.2.1 * 1<=a.2.2.1.length/\([P p,P q]:List Value).length=2 * 1/\(∀b2 ∈ ([P p,P q]:List Value),b2.oneCell'=true)/\∀(a6:List Value) (a0:Nat),((J.wrap (((a.1:Nat):Int)-1)).toNat) + 2<=a0->a0 * 1<=(((J.wrap (((a.1:Nat):Int)-1)).toNat) + 2) * 1 + a6.length->(∃(e:Nat × Nat × (List Value) × Int × Int) (a7:Nat),a7 < u/\(((114:FuncId)=114)/\((((J.wrap (((a.1:Nat):Int)-1)).toNat) + 2:Nat)=e.1)/\((a0:Nat)=e.2.1)/\(x=e.2.2.2.1)/\(y=e.2.2.2.2)/\((a.2.2.1.take (((J.wrap (((a.1:Nat):Int)-1)).toNat) * 1)++([P p,P q]:List Value)++a6)=e.2.2.1))/\l e a7 o)))))/\((!z)=false->(∃(f:Nat × Nat × (List Value) × Int × Int) (a8:Nat),a8 < u/\(((114:FuncId)=114)/\(((J.wrap (((a.1:Nat):Int)-1)).toNat:Nat)=f.1)/\((a.2.1:Nat)=f.2.1)/\(x=f.2.2.2.1)/\(y=f.2.2.2.2)/\(a.2.2.1=f.2.2.1))/\l f a8 o)))))))/\((decide (((a.1:Nat):Int) > (0:Int)))=false->(∀a1,m.Le a1->a1.w.heap[i]?=some (.cells #[I J a.2.2.2.1,I J a.2.2.2.2] 179 (0,0))->R (T #[]) a1)))))):
 Acts prog 113 #[P r,.func (.func 114) #[] #[P (some ⟨i,0,none⟩)]] V R:=
 fn_does (LF:=LF0) (RF:=[1000010]) (β0:=(upd1 (fun _=>0) 100000 i)) tab_ok mixed [(1,⟨Nat × Nat × (List Value) × Int × Int,true,[1],[],fun g=>[(4,.c (.msl 4 g.1 g.2.1))],fun g=>[(100000,⟨.lit [.v (I J g.2.2.2.1),.v (I J g.2.2.2.2)],179⟩),(4,⟨.mrow g.2.2.1,175⟩)]⟩)] [] func113 (by kernel_rfl) [(0,.c (.v (P r))),(1,.c (.clo 114 [100000]))] [(100000,⟨.lit [.v (I J s),.v (I J t)],179⟩)] (by kernel_rfl) ⟨⟨hw100000,hx100000⟩,trivial,trivial⟩ h (by kernel_rfl)
theorem vc_tree_Leaves (e:Int) (f:OA) (g i:Nat) (V:View) (R:VR) (h:(Ca V 111 #[A #[I J e,S f g i]] fun s c=>∃k,∃d,s=T #[P k,B d]/\(((!d)=true->(∃l,(∃m,(some ⟨1,0,none⟩:OA)=some m/\c.at m (l))/\(Rt c R (T #[I J 0,I J 0,l]))))/\((!d)=false->(∀b,c.Le b->∀a:Nat,(b.w.heap[a]?=some (.cells #[I J 0,I J 0] 179 (0,0)))->(b.H a)->Acts prog 113 #[P k,.func (.func 114) #[] #[P (some ⟨a,0,none⟩)]] (b.lend [a]) fun t o=> t=T #[]/\∃p,∃q,o.w.heap[a]?=some (.cells #[I J p,I J q] 179 (0,0))/\(0<=(0:Int)/\(0:Int) < (2:Int))/\(0<=(1:Int)/\(1:Int) < (2:Int))/\(∀r,o.shut.Le r->R (T #[I J p,I J q,.nilIface]) r)))))):
 Acts prog 50 #[A #[I J e,S f g i]] V R:=
 fd (LF:=LF0) (RF:=[1000010]) [] [] func50 h
theorem vc_law14_leaves (a:OA) (V:View) (R:VR) (h:(a.isSome=true)/\(a.isSome=true)/\(∃b,(∃d,addrAdd a 0=some d/\V.at d (B b))/\((b=true->(a.isSome=true)/\(a.isSome=true)/\(∃c,(∃e,addrAdd a 1=some e/\V.at e (B c))/\((c=true->(Rt V R (T #[I J 0,I J 1])))/\(c=false->(Rt V R (T #[I J 1,I J 0]))))))/\(b=false->(a.isSome=true)/\(a.isSome=true)/\(∃i,(∃k,addrAdd a 8=some k/\V.at k (P i))/\(Ca V 52 #[P i] fun t l=>∃m,∃n,t=T #[I J m,I J n]/\(a.isSome=true)/\(a.isSome=true)/\(∃o,(∃p,addrAdd a 9=some p/\l.at p (P o))/\(Ca l 52 #[P o] fun u w=>∃q,∃r,u=T #[I J q,I J r]/\(Rt w R (T #[I J (J.wrap (m + q)),I J (J.wrap (n + r))])))))))))):
 Acts prog 52 #[P a] V R:=
 fd (LF:=LF0) (RF:=[1000010]) [] [] func52 h
theorem vc_ref14_Size (a:OA) (V:View) (R:VR) (h:(a.isSome=true)/\(a.isSome=true)/\(∃b,(∃c,addrAdd a 0=some c/\V.at c (B b))/\((b=true->(Rt V R (I J 0)))/\(b=false->(a.isSome=true)/\(a.isSome=true)/\(∃e,(∃f,addrAdd a 8=some f/\V.at f (P e))/\(a.isSome=true)/\(a.isSome=true)/\(∃g,(∃i,addrAdd a 9=some i/\V.at i (P g))/\(Ca V 54 #[P e] fun n o=>∃k,n=I J k/\(Ca o 54 #[P g] fun p q=>∃l,p=I J l/\(Rt q R (I J (J.wrap ((J.wrap ((1:Int) + k)) + l)))))))))))):
 Acts prog 54 #[P a] V R:=
 fd (LF:=LF0) (RF:=[1000010]) [] [] func54 h
theorem vc_ref14_Depth (a:OA) (V:View) (R:VR) (h:(a.isSome=true)/\(a.isSome=true)/\(∃b,(∃c,addrAdd a 0=some c/\V.at c (B b))/\((b=true->(Rt V R (I J 0)))/\(b=false->(a.isSome=true)/\(a.isSome=true)/\(∃e,(∃f,addrAdd a 8=some f/\V.at f (P e))/\(a.isSome=true)/\(a.isSome=true)/\(∃g,(∃i,addrAdd a 9=some i/\V.at i (P g))/\(Ca V 55 #[P e] fun n o=>∃k,n=I J k/\(Ca o 55 #[P g] fun p q=>∃l,p=I J l/\(Rt q R (I J (J.wrap ((1:Int) + (maxI k l))))))))))))):
 Acts prog 55 #[P a] V R:=
 fd (LF:=LF0) (RF:=[1000010]) [] [] func55 h
end Go.Proofs.Tryz
/- Contracts: the counts of a tree (package tree, and the reference). -/
namespace Go.Proofs.Tryz
open Go.Eng Go.Big
def Tr.depth:Tr->Nat
 | .leaf _=>0
 | .node _ a b=>1 + max a.depth b.depth
def Tr.outs:Tr->Nat
 | .leaf i=>if i then 0 else 1
 | .node _ a b=>a.outs + b.outs
def Tr.ins:Tr->Nat
 | .leaf i=>if i then 1 else 0
 | .node _ a b=>a.ins + b.ins
theorem depth_le:∀t:Tr,t.depth<=t.size
 | .leaf _=>Nat.le_refl _
 | .node _ a b=>by have:=depth_le a; have:=depth_le b; simp only [Tr.depth,Tr.size]; omega
theorem outs_ins:∀t:Tr,t.outs + t.ins=t.size + 1
 | .leaf i=>by cases i <;> rfl
 | .node _ a b=>by have:=outs_ins a; have:=outs_ins b; simp only [Tr.outs,Tr.ins,Tr.size]; omega
theorem max_wrap {a b:Nat} (ha:a<=1000000) (hb:b<=1000000):i64.wrap ((1:Int) + maxI (a:Int) (b:Int))=((1 + max a b:Nat):Int):=by
 have:maxI (a:Int) (b:Int)=((max a b:Nat):Int):=by unfold maxI; split <;> omega
 rw [this,i64w (by omega)]
 omega
theorem c_bsp_Depth:∀(t:Tr) {V:View} {p:OA},RT V p t->t.size<=1000000->Acts prog 112 #[.pointer p] V fun r V'=>r=.int .i64 (t.depth:Int)
 | .leaf i,V,p,h,hs=>by
  refine vc_bsp_T_Depth p V _ fun V1 l1=>(c_bsp_IsLeaf (h.le l1)).mono ?_
  rintro r V2 l2 rfl
  exact ⟨_,rfl,fun _ V3 l3=>rfl,(fun h=>nomatch h)⟩
 | .node ln a b,V,p,h,hs=>by
  have h0:=h
  refine vc_bsp_T_Depth p V _ fun V1 l1=>(c_bsp_IsLeaf (h0.le l1)).mono ?_
  rintro r V2 l2 rfl
  obtain ⟨bb,x1,x2,x3,y1,y2,y3,z1,z2,z3,pl,pr,i,rfl,hb,hl,ha,hbb⟩:=h.le (l1.trans l2)
  have s1:=depth_le a
  have s2:=depth_le b
  simp only [Tr.size] at hs
  refine ⟨_,rfl,(fun h=>nomatch h),fun _=>⟨rfl,rfl,pl,rdc hb 9 rfl,rfl,rfl,pr,rdc hb 10 rfl,fun V4 l4=>(c_bsp_Depth a (ha.le l4) (by omega)).mono ?_⟩⟩
  rintro r V5 l5 rfl
  refine ⟨_,rfl,fun V6 l6=>(c_bsp_Depth b (hbb.le (l4.trans (l5.trans l6))) (by omega)).mono ?_⟩
  rintro r V7 l7 rfl
  exact ⟨_,rfl,fun V8 l8=>by rw [max_wrap (by omega) (by omega)]; rfl⟩
theorem c_tree_Size {V:View} {l:List Nd} (hb:∀x ∈ l,Bd x.ln) {v:Value} {root:Int} (h:AT V v root l) {t:Tr} (ho:ofT l root=some t) :
  Acts prog 48 #[v] V fun r V'=>r=.tuple #[.int .i64 (l.length:Int),.nilIface]:=by
 have h0:=h
 obtain ⟨p,n,c,rfl,hn⟩:=h
 obtain rfl:=hn.len
 refine vc_tree_Size root p _ c V _ fun V1 l1=>(c_tree_Valid hb (h0.le l1)).mono ?_
 rintro r V2 l2 rfl
 rw [ho]
 exact ⟨_,rfl,(fun h=>nomatch h),fun _ V4 l4=>rfl⟩
theorem c_tree_Depth {V:View} {l:List Nd} (hb:∀x ∈ l,Bd x.ln) {v:Value} {root:Int} (h:AT V v root l) {t:Tr} (ho:ofT l root=some t) :
  Acts prog 49 #[v] V fun r V'=>r=.tuple #[.int .i64 (t.depth:Int),.nilIface]:=by
 have h0:=h
 obtain ⟨p,n,c,rfl,hn⟩:=h
 refine vc_tree_Depth root p _ c V _ fun V1 l1=>(c_bsp_Of' hb (h0.le l1)).mono ?_
 rintro r V2 l2 ⟨q,rfl,hq⟩
 rw [ho]
 have hs:=ofT_size ho
 refine ⟨_,_,rfl,(fun h=>nomatch h),fun _ V4 l4=>(c_bsp_Depth t ((hq t ho).le l4) (by omega)).mono ?_⟩
 rintro r V5 l5 rfl
 exact ⟨_,rfl,fun V6 l6=>rfl⟩
/-! leaves -/
def lo1:Tr->Int
 | .leaf i=>if i then 0 else 1
 | .node ..=>0
def li1:Tr->Int
 | .leaf i=>if i then 1 else 0
 | .node ..=>0
theorem c_tree_Leaves1 {V:View} {p:OA} {t:Tr} {kb:Nat} {k m:Int} (h:RT V p t) (hw:V.w.heap[kb]?=some (.cells #[.int .i64 k,.int .i64 m] 179 (0,0))) (hx:V.X kb) (h0:0<=k) (h1:k<=1000000) (h2:0<=m) (h3:m<=1000000) :
  Acts prog 114 #[.pointer p,.pointer (some ⟨kb,0,none⟩)] V fun r V'=>r=.tuple #[]/\V'.w.heap[kb]?=some (.cells #[.int .i64 (k + lo1 t),.int .i64 (m + li1 t)] 179 (0,0)):=by
 have wk:i64.wrap (k + 1)=k + 1:=i64w (by omega)
 have wm:i64.wrap (m + 1)=m + 1:=i64w (by omega)
 refine vc_tree_Leaves_1 p kb k m V _ hw hx fun V1 l1=>(c_bsp_IsLeaf (h.le l1)).mono ?_
 rintro r V2 l2 rfl
 have h2:=h.le (l1.trans l2)
 cases t with
 | leaf i=>
  have h20:=h2
  obtain ⟨b,c0,c1,c2,c3,c4,c5,c6,c7,c8,q,rfl,hb⟩:=h2
  refine ⟨_,rfl,fun _=>⟨rfl,rfl,i,rdc hb 11 rfl,fun hi=>?_,fun hi V4 l4=>(c_bsp_IsLeaf (h20.le l4)).mono ?_⟩,(fun h=>nomatch h)⟩
  ·subst hi
   rw [wm]
   exact ⟨⟨by omega,by omega⟩,⟨by omega,by omega⟩,fun V3 l3 e=>⟨rfl,by simpa [lo1,li1] using e⟩⟩
  ·rintro r V5 l5 rfl
   subst hi
   rw [wk]
   exact ⟨_,rfl,fun _=>⟨⟨by omega,by omega⟩,⟨by omega,by omega⟩,fun V6 l6 e=>⟨rfl,by simpa [lo1,li1] using e⟩⟩,(fun h=>nomatch h)⟩
 | node ln a b=>
  refine ⟨_,rfl,(fun h=>nomatch h),fun _ V8 l8=>(c_bsp_IsLeaf (h2.le l8)).mono ?_⟩
  rintro r V9 l9 rfl
  exact ⟨_,rfl,(fun h=>nomatch h),fun _ V11 l11 e=>⟨rfl,by simpa [lo1,li1] using e⟩⟩
def loS:List Tr->Nat
 | []=>0
 | t :: r=>t.outs + loS r
def liS:List Tr->Nat
 | []=>0
 | t :: r=>t.ins + liS r
theorem loS_append (a b:List Tr):loS (a++b)=loS a + loS b:=by
 induction a with
 | nil=>simp [loS]
 | cons t r ih=>simp only [List.cons_append,loS,ih]; omega
theorem liS_append (a b:List Tr):liS (a++b)=liS a + liS b:=by
 induction a with
 | nil=>simp [liS]
 | cons t r ih=>simp only [List.cons_append,liS,ih]; omega
theorem c_bsp_Each_Leaves {V:View} {p:OA} {t:Tr} {kb:Nat} (h:RT V p t) (hs:t.size<=400000) (hw:V.w.heap[kb]?=some (.cells #[.int .i64 0,.int .i64 0] 179 (0,0))) (hx:V.X kb) :
  Acts prog 113 #[.pointer p,.func (.func 114) #[] #[.pointer (some ⟨kb,0,none⟩)]] V fun r V'=>r=.tuple #[]/\V'.w.heap[kb]?=some (.cells #[.int .i64 (t.outs:Int),.int .i64 (t.ins:Int)] 179 (0,0)):=by
 have hoi:=outs_ins t
 refine vc_bsp_T_Each_Leaves p kb 0 0 V _ hw hx ⟨fun z k V'=>∃ts:List Tr,z.1=ts.length/\z.1<=z.2.1/\z.2.1<=z.2.2.1.length/\Stk V' z.2.2.1 ts/\z.2.2.2.1 + (loS ts:Int)=(t.outs:Int)/\z.2.2.2.2 + (liS ts:Int)=(t.ins:Int)/\0<=z.2.2.2.1/\0<=z.2.2.2.2/\k=nds ts/\k<=2 * t.size + 1,
  ⟨(1,1,[.pointer p],0,0),2 * t.size + 1,⟨by (try dsimp only); and_intros <;> first | rfl | trivial | omega,[t],rfl,Nat.le_refl _,Nat.le_refl _,?_,by simp [loS],by simp [liS],Int.le_refl _,Int.le_refl _,by simp [nds],Nat.le_refl _⟩⟩,?_⟩
 ·intro i x hx
  match i,hx with
  | 0,hx=>cases hx; exact ⟨p,rfl,h⟩
  | n + 1,hx=>cases hx
 ·rintro ⟨n,c,vs,k,k'⟩ m V1 l1 ⟨ts,h1,h2,h3,hst,h4,h4',h5,h5',h6,h7⟩
  dsimp only at h1 h2 h3 hst h4 h4' h5 h5' ⊢
  have hnl:=nds_len ts
  refine ⟨by trivial,fun g1=>?_,fun g1 V6 l6 e=>?_⟩
  ·have g1:0 < n:=by simpa using g1
   have w1:i64.wrap ((n:Int) - 1)=((n - 1:Nat):Int):=by rw [i64w (by omega)]; omega
   rw [w1]
   simp only [Int.toNat_natCast,Nat.mul_one]
   have hlt:n - 1 < ts.length:=by omega
   obtain ⟨q,hq1,hq2⟩:=hst (n - 1) ts[n - 1] (List.getElem?_eq_getElem hlt)
   have hts:ts=ts.take (n - 1)++[ts[n - 1]]:=by
    rw [List.take_append_getElem hlt,List.take_of_length_le (by omega)]
   generalize ts[n - 1]=x at hq2 hts
   have e1:loS ts=loS (ts.take (n - 1)) + x.outs:=by
    conv=>lhs; rw [hts]
    rw [loS_append]; simp [loS]
   have e1':liS ts=liS (ts.take (n - 1)) + x.ins:=by
    conv=>lhs; rw [hts]
    rw [liS_append]; simp [liS]
   have e2:nds ts=nds (ts.take (n - 1)) + (2 * x.size + 1):=by
    conv=>lhs; rw [hts]
    rw [nds_append]; simp [nds]
   refine ⟨⟨by omega,by omega⟩,h2,q,hq1,⟨by omega,by omega⟩,fun V2 l2 bk f1 f2=>(c_tree_Leaves1 (V:=V2.lend [bk]) (RT.le (V:=V1) (V':=V2.lend _) (fun b o h=>l2 b o h) hq2) f1 ⟨by simp,f2⟩ h5 (by omega) h5' (by omega)).mono ?_⟩
   rintro r V3 l3 ⟨rfl,f3⟩
   refine ⟨rfl,_,_,f3,fun V4 l4=>?_⟩
   have l14:V1.Le V4:=fun b o h=>l4 b o (l3 b o (l2 b o h))
   refine (c_bsp_IsLeaf (hq2.le l14)).mono ?_
   rintro r V5 l5 rfl
   refine ⟨_,rfl,fun g2=>?_,fun g2=>?_⟩
   ·have g2:x.isLeaf=false:=by simpa using g2
    cases x with
    | leaf i=>cases g2
    | node ln a b=>
     obtain ⟨bb,x1,x2,x3,y1,y2,y3,z1,z2,z3,pl,pr,i,rfl,hb,hl,ha,hbb⟩:=hq2
     have hb5:=(l14.trans l5) _ _ hb
     simp only [Tr.size,Tr.outs,Tr.ins] at e1 e1' e2
     refine ⟨rfl,rfl,pr,rdc hb5 10 rfl,rfl,rfl,pl,rdc hb5 9 rfl,by omega,by omega,by omega,rfl,by intro v hv; simp at hv; rcases hv with rfl | rfl <;> rfl,fun sp c' k1 k2=>?_⟩
     refine ⟨(n - 1 + 2,c',_,_,_),nds (ts.take (n - 1)) + (2 * a.size + 1) + (2 * b.size + 1),by omega,⟨by (try dsimp only); and_intros <;> first | rfl | trivial,ts.take (n - 1)++[b,a],?_,k1,?_,(hst.le (l14.trans l5)).popPush (by omega) (by omega) (hbb.le (l14.trans l5)) (ha.le (l14.trans l5)),?_,?_,?_,?_,?_,by omega⟩⟩
     ·simp; omega
     ·dsimp only; simp only [List.length_append,List.length_take,List.length_cons,List.length_nil]; omega
     ·rw [loS_append]; simp [loS,lo1]; omega
     ·rw [liS_append]; simp [liS,li1]; omega
     ·simp [lo1]; omega
     ·simp [li1]; omega
     ·rw [nds_append]; simp [nds]; omega
   ·have g2:x.isLeaf=true:=by simpa using g2
    cases x with
    | node ln a b=>cases g2
    | leaf i=>
     simp only [Tr.size,Tr.outs,Tr.ins] at e1 e1' e2
     refine ⟨(n - 1,c,vs,_,_),nds (ts.take (n - 1)),by omega,⟨by (try dsimp only); and_intros <;> first | rfl | trivial,ts.take (n - 1),?_,by dsimp only; omega,h3,fun i t hi=>?_,?_,?_,?_,?_,rfl,by omega⟩⟩
     ·simp; omega
     ·rw [List.getElem?_take] at hi
      split at hi
      ·exact (hst.le (l14.trans l5)) i t hi
      ·cases hi
     ·cases i <;> simp [lo1] at e1 ⊢ <;> omega
     ·cases i <;> simp [li1] at e1' ⊢ <;> omega
     ·cases i <;> simp [lo1] <;> omega
     ·cases i <;> simp [li1] <;> omega
  ·have g1:n=0:=by simpa using g1
   refine ⟨rfl,?_⟩
   have:ts=[]:=List.length_eq_zero_iff.1 (by omega)
   subst this
   simp only [loS,liS] at h4 h4'
   have:k=(t.outs:Int):=by omega
   rw [← this]
   have:k'=(t.ins:Int):=by omega
   rw [← this]
   exact e
theorem c_tree_Leaves {V:View} {l:List Nd} (hb:∀x ∈ l,Bd x.ln) {v:Value} {root:Int} (h:AT V v root l) {t:Tr} (ho:ofT l root=some t) :
  Acts prog 50 #[v] V fun r V'=>r=.tuple #[.int .i64 (t.outs:Int),.int .i64 (t.ins:Int),.nilIface]:=by
 have h0:=h
 obtain ⟨p,n,c,rfl,hn⟩:=h
 refine vc_tree_Leaves root p _ c V _ fun V1 l1=>(c_bsp_Of' hb (h0.le l1)).mono ?_
 rintro r V2 l2 ⟨q,rfl,hq⟩
 rw [ho]
 have hs:=ofT_size ho
 refine ⟨_,_,rfl,(fun h=>nomatch h),fun _ V4 l4 bk g1 g2=>(c_bsp_Each_Leaves (V:=V4.lend [bk]) (RT.le (V:=V2) (V':=V4.lend _) (fun b o h=>l4 b o h) (hq t ho)) (by omega) g1 ⟨by simp,g2⟩).mono ?_⟩
 rintro r V5 l5 ⟨rfl,e⟩
 exact ⟨rfl,_,_,e,⟨by omega,by omega⟩,⟨by omega,by omega⟩,fun V6 l6=>rfl⟩
/-! the reference -/
theorem rw_leaf {V:View} {p:OA} {i:Bool} (h:RW V p (.leaf i)):p.isSome=true/\(∃a,addrAdd p 0=some a/\V.at a (.bool true))/\∃a,addrAdd p 1=some a/\V.at a (.bool i):=by
 obtain ⟨b,c2,c3,c4,c5,c6,c7,c8,c9,rfl,hb⟩:=h
 exact ⟨rfl,rdc hb 0 rfl,rdc hb 1 rfl⟩
theorem rw_node {V:View} {p:OA} {ln:L3} {x y:Tr} (h:RW V p (.node ln x y)):p.isSome=true/\(∃a,addrAdd p 0=some a/\V.at a (.bool false))/\∃pl pr,(∃a,addrAdd p 8=some a/\V.at a (.pointer pl))/\(∃a,addrAdd p 9=some a/\V.at a (.pointer pr))/\RW V pl x/\RW V pr y:=by
 obtain ⟨b,i,b1,p1,n1,c1,b2,p2,n2,c2,b3,p3,n3,c3,pl,pr,rfl,hb,hl,hx,hy⟩:=h
 exact ⟨rfl,rdc hb 0 rfl,pl,pr,rdc hb 8 rfl,rdc hb 9 rfl,hx,hy⟩
theorem c_ref14_Size:∀(t:Tr) {V:View} {p:OA},RW V p t->t.size<=1000000->Acts prog 54 #[.pointer p] V fun r V'=>r=.int .i64 (t.size:Int)
 | .leaf i,V,p,h,hs=>by
  obtain ⟨s,e0,-⟩:=rw_leaf h
  exact vc_ref14_Size p V _ ⟨s,s,_,e0,fun _ V1 l1=>rfl,(fun h=>nomatch h)⟩
 | .node ln a b,V,p,h,hs=>by
  obtain ⟨s,e0,pl,pr,e8,e9,ha,hb⟩:=rw_node h
  simp only [Tr.size] at hs
  refine vc_ref14_Size p V _ ⟨s,s,_,e0,(fun h=>nomatch h),fun _=>⟨s,s,pl,e8,s,s,pr,e9,fun V2 l2=>(c_ref14_Size a (ha.le l2) (by omega)).mono ?_⟩⟩
  rintro r V3 l3 rfl
  refine ⟨_,rfl,fun V4 l4=>(c_ref14_Size b (hb.le (l2.trans (l3.trans l4))) (by omega)).mono ?_⟩
  rintro r V5 l5 rfl
  exact ⟨_,rfl,fun V6 l6=>by rw [i64w (x:=(1:Int) + _) (by omega),i64w (by omega)]; simp only [Tr.size]; congr 1; omega⟩
theorem c_ref14_Depth:∀(t:Tr) {V:View} {p:OA},RW V p t->t.size<=1000000->Acts prog 55 #[.pointer p] V fun r V'=>r=.int .i64 (t.depth:Int)
 | .leaf i,V,p,h,hs=>by
  obtain ⟨s,e0,-⟩:=rw_leaf h
  exact vc_ref14_Depth p V _ ⟨s,s,_,e0,fun _ V1 l1=>rfl,(fun h=>nomatch h)⟩
 | .node ln a b,V,p,h,hs=>by
  obtain ⟨s,e0,pl,pr,e8,e9,ha,hb⟩:=rw_node h
  have s1:=depth_le a
  have s2:=depth_le b
  simp only [Tr.size] at hs
  refine vc_ref14_Depth p V _ ⟨s,s,_,e0,(fun h=>nomatch h),fun _=>⟨s,s,pl,e8,s,s,pr,e9,fun V2 l2=>(c_ref14_Depth a (ha.le l2) (by omega)).mono ?_⟩⟩
  rintro r V3 l3 rfl
  refine ⟨_,rfl,fun V4 l4=>(c_ref14_Depth b (hb.le (l2.trans (l3.trans l4))) (by omega)).mono ?_⟩
  rintro r V5 l5 rfl
  exact ⟨_,rfl,fun V6 l6=>by rw [max_wrap (by omega) (by omega)]; rfl⟩
theorem c_law14_leaves:∀(t:Tr) {V:View} {p:OA},RW V p t->t.size<=1000000->Acts prog 52 #[.pointer p] V fun r V'=>r=.tuple #[.int .i64 (t.outs:Int),.int .i64 (t.ins:Int)]
 | .leaf i,V,p,h,hs=>by
  obtain ⟨s,e0,e1⟩:=rw_leaf h
  exact vc_law14_leaves p V _ ⟨s,s,_,e0,fun _=>⟨s,s,_,e1,fun hi V1 l1=>by subst hi; rfl,fun hi V2 l2=>by subst hi; rfl⟩,(fun h=>nomatch h)⟩
 | .node ln a b,V,p,h,hs=>by
  obtain ⟨s,e0,pl,pr,e8,e9,ha,hb⟩:=rw_node h
  have s1:=outs_ins a
  have s2:=outs_ins b
  simp only [Tr.size] at hs
  refine vc_law14_leaves p V _ ⟨s,s,_,e0,(fun h=>nomatch h),fun _=>⟨s,s,pl,e8,fun V3 l3=>(c_law14_leaves a (ha.le l3) (by omega)).mono ?_⟩⟩
  rintro r V4 l4 rfl
  obtain ⟨-,-,pl',pr',-,e9',-,hb'⟩:=rw_node (h.le (l3.trans l4))
  refine ⟨_,_,rfl,s,s,pr',e9',fun V5 l5=>(c_law14_leaves b (hb'.le l5) (by omega)).mono ?_⟩
  rintro r V6 l6 rfl
  exact ⟨_,_,rfl,fun V7 l7=>by rw [i64w (by omega),i64w (by omega)]; simp only [Tr.outs,Tr.ins]; rfl⟩
end Go.Proofs.Tryz
/- Plain: what sorting in place does to a list: swaps, segments, the order of the elements. -/
namespace Go.Proofs.Tryz
open Go.Big
section
variable {α:Type}
/-- A comparison that orders. -/
structure Ord (c:α->α->Int):Prop where
 asy:∀a b,c a b < 0->¬ c b a < 0
 tr:∀a b d,¬ c a b < 0->¬ c b d < 0->¬ c a d < 0
variable {c:α->α->Int}
theorem Ord.le (h:Ord c) {a b:α} (l:c a b < 0):¬ c b a < 0:=h.asy a b l
theorem Ord.refl (h:Ord c) (a:α):¬ c a a < 0:=fun l=>h.asy a a l l
/-- Two elements change places. -/
def swp (d:α) (l:List α) (i j:Nat):List α:=(l.set i (l.getD j d)).set j (l.getD i d)
variable {d:α}
theorem swp_len {l:List α} {i j:Nat}:(swp d l i j).length=l.length:=by simp [swp]
theorem getD_set {l:List α} {i k:Nat} {x:α} (hi:i < l.length):(l.set i x).getD k d=if k=i then x else l.getD k d:=by
 simp only [List.getD_eq_getElem?_getD,List.getElem?_set]
 by_cases h:k=i
 ·subst h; simp [hi]
 ·have:¬ i=k:=fun e=>h e.symm
  simp [h,this]
theorem swp_at {l:List α} {i j k:Nat} (hi:i < l.length) (hj:j < l.length):(swp d l i j).getD k d=if k=j then l.getD i d else if k=i then l.getD j d else l.getD k d:=by
 unfold swp
 rw [getD_set (by simpa using hj),getD_set hi]
theorem swp_perm {l:List α} {i j:Nat} (hi:i < l.length) (hj:j < l.length):(swp d l i j).Perm l:=by
 have h:=Array.swap_perm (xs:=l.toArray) (i:=i) (j:=j) (by simpa using hi) (by simpa using hj)
 have e:(l.toArray.swap i j (by simpa using hi) (by simpa using hj)).toList=swp d l i j:=by
  simp [Array.swap,swp,List.getD_eq_getElem?_getD,hi,hj]
 have:=h.toList
 rw [e] at this
 simpa using this
/-- Only the part from a to b was changed, within itself. -/
structure Seg (d:α) (l m:List α) (a b:Nat):Prop where
 len:m.length=l.length
 out:∀k,¬ (a<=k/\k < b)->m.getD k d=l.getD k d
 mem:∀k,a<=k->k < b->∃k',a<=k'/\k' < b/\m.getD k d=l.getD k' d
 perm:m.Perm l
theorem Seg.refl (l:List α) (a b:Nat):Seg d l l a b:=⟨rfl,fun _ _=>rfl,fun k h h'=>⟨k,h,h',rfl⟩,.refl _⟩
theorem Seg.trans {l m n:List α} {a b:Nat} (h:Seg d l m a b) (g:Seg d m n a b):Seg d l n a b:=
 ⟨g.len.trans h.len,fun k hk=>(g.out k hk).trans (h.out k hk),fun k h1 h2=>by
  obtain ⟨k',h3,h4,e⟩:=g.mem k h1 h2
  obtain ⟨k'',h5,h6,e'⟩:=h.mem k' h3 h4
  exact ⟨k'',h5,h6,e.trans e'⟩,g.perm.trans h.perm⟩
theorem Seg.wide {l m:List α} {a b a' b':Nat} (h:Seg d l m a b) (ha:a'<=a) (hb:b<=b'):Seg d l m a' b':=
 ⟨h.len,fun k hk=>h.out k (by omega),fun k h1 h2=>by
  by_cases hk:a<=k/\k < b
  ·obtain ⟨k',h3,h4,e⟩:=h.mem k hk.1 hk.2
   exact ⟨k',by omega,by omega,e⟩
  ·exact ⟨k,h1,h2,h.out k hk⟩,h.perm⟩
theorem Seg.swp {l:List α} {a b i j:Nat} (hi:a<=i) (hi':i < b) (hj:a<=j) (hj':j < b) (hb:b<=l.length):Seg d l (swp d l i j) a b:=by
 refine ⟨swp_len,fun k hk=>?_,fun k h1 h2=>?_,swp_perm (by omega) (by omega)⟩
 ·rw [swp_at (by omega) (by omega),if_neg (by omega),if_neg (by omega)]
 ·rw [swp_at (by omega) (by omega)]
  split
  ·exact ⟨i,hi,hi',rfl⟩
  ·split
   ·exact ⟨j,hj,hj',rfl⟩
   ·exact ⟨k,h1,h2,rfl⟩
/-- Ascending from a to b. -/
def Asc (c:α->α->Int) (d:α) (l:List α) (a b:Nat):Prop:=∀p q,a<=p->p < q->q < b->¬ c (l.getD q d) (l.getD p d) < 0
theorem Asc.short {l:List α} {a b:Nat} (h:b<=a + 1):Asc c d l a b:=fun p q h1 h2 h3=>by omega
theorem Asc.step (ho:Ord c) {l:List α} {a b:Nat} (h:Asc c d l a b) (h0:a < b) (hb:¬ c (l.getD b d) (l.getD (b - 1) d) < 0):Asc c d l a (b + 1):=by
 intro p q h1 h2 h3
 by_cases e:q=b
 ·subst e
  by_cases e':p=q - 1
  ·subst e'; exact hb
  ·exact ho.tr _ _ _ hb (h p (q - 1) h1 (by omega) (by omega))
 ·exact h p q h1 h2 (by omega)
/-- Insertion: the part from a to i is in order but for the element at j. -/
def Ins (c:α->α->Int) (d:α) (l:List α) (a i j:Nat):Prop:=∀p q,a<=p->p < q->q<=i->q≠j->¬ c (l.getD q d) (l.getD p d) < 0
theorem Ins.start {l:List α} {a i:Nat} (h:Asc c d l a i):Ins c d l a i i:=fun p q h1 h2 h3 h4=>h p q h1 h2 (by omega)
theorem Ins.done (ho:Ord c) {l:List α} {a i j:Nat} (h:Ins c d l a i j) (hji:j<=i) (hs:j<=a \/ ¬ c (l.getD j d) (l.getD (j - 1) d) < 0):Asc c d l a (i + 1):=by
 intro p q h1 h2 h3
 by_cases e:q=j
 ·subst e
  rcases hs with hs | hs
  ·omega
  ·by_cases e':p=q - 1
   ·subst e'; exact hs
   ·exact ho.tr _ _ _ hs (h p (q - 1) h1 (by omega) (by omega) (by omega))
 ·exact h p q h1 h2 (by omega) e
theorem Ins.move (ho:Ord c) {l:List α} {a i j:Nat} (h:Ins c d l a i j) (hj:a < j) (hji:j<=i) (hi:i < l.length) (hl:c (l.getD j d) (l.getD (j - 1) d) < 0):Ins c d (swp d l j (j - 1)) a i (j - 1):=by
 intro p q h1 h2 h3 h4
 have ha:=fun k=>swp_at (d:=d) (l:=l) (i:=j) (j:=j - 1) (k:=k) (by omega) (by omega)
 rw [ha,ha]
 by_cases eq:q=j
 ·subst eq
  rw [if_neg (by omega),if_pos rfl]
  by_cases ep:p=q - 1
  ·rw [if_pos ep]; exact ho.asy _ _ hl
  ·rw [if_neg ep,if_neg (by omega)]; exact h p (q - 1) h1 (by omega) (by omega) (by omega)
 ·rw [if_neg h4,if_neg eq]
  by_cases ep:p=j - 1
  ·rw [if_pos ep]; exact h j q (by omega) (by omega) h3 eq
  ·rw [if_neg ep]
   by_cases ep':p=j
   ·rw [if_pos ep']; exact h (j - 1) q (by omega) (by omega) h3 eq
   ·rw [if_neg ep']; exact h p q h1 h2 h3 eq
/-! heaps -/
/-- From lo on, no child (below hi) is greater than its parent; the place r is left out; its children are not greater than its parent. -/
def Hp (c:α->α->Int) (d:α) (l:List α) (f lo hi:Nat) (r:Option Nat):Prop:=
 (∀i k,lo<=i->(k=2 * i + 1 \/ k=2 * i + 2)->k < hi->r≠some i->¬ c (l.getD (f + i) d) (l.getD (f + k) d) < 0) /\
 (∀i j k,r=some j->lo<=i->(j=2 * i + 1 \/ j=2 * i + 2)->(k=2 * j + 1 \/ k=2 * j + 2)->k < hi->¬ c (l.getD (f + i) d) (l.getD (f + k) d) < 0)
theorem Hp.top (ho:Ord c) {l:List α} {f hi:Nat} (h:Hp c d l f 0 hi none):∀k,k < hi->¬ c (l.getD f d) (l.getD (f + k) d) < 0:=by
 intro k
 induction k using Nat.strongRecOn with
 | ind k ih=>
  intro hk
  by_cases h0:k=0
  ·subst h0; exact ho.refl _
  ·exact ho.tr _ _ _ (ih ((k - 1) / 2) (by omega) (by omega)) (h.1 ((k - 1) / 2) k (by omega) (by omega) hk (by simp))
theorem Hp.leaf {l:List α} {f lo hi r:Nat} (h:Hp c d l f lo hi (some r)) (hr:hi<=2 * r + 1):Hp c d l f lo hi none:=
 ⟨fun i k h1 h2 h3 _=>by
  by_cases e:r=i
  ·omega
  ·exact h.1 i k h1 h2 h3 (by simpa using e),fun i j k e=>by cases e⟩
theorem Hp.stop (ho:Ord c) {l:List α} {f lo hi r k:Nat} (h:Hp c d l f lo hi (some r)) (hk:k=2 * r + 1 \/ k=2 * r + 2) (hm:∀k',(k'=2 * r + 1 \/ k'=2 * r + 2)->k' < hi->¬ c (l.getD (f + k) d) (l.getD (f + k') d) < 0)
  (hs:¬ c (l.getD (f + r) d) (l.getD (f + k) d) < 0):Hp c d l f lo hi none:=
 ⟨fun i k' h1 h2 h3 _=>by
  by_cases e:r=i
  ·subst e; exact ho.tr _ _ _ hs (hm k' h2 h3)
  ·exact h.1 i k' h1 h2 h3 (by simpa using e),fun i j k e=>by cases e⟩
theorem Hp.down (ho:Ord c) {l:List α} {f lo hi r k:Nat} (h:Hp c d l f lo hi (some r)) (hlo:lo<=r) (hl:f + hi<=l.length) (hk:k=2 * r + 1 \/ k=2 * r + 2) (hkh:k < hi) (hm:∀k',(k'=2 * r + 1 \/ k'=2 * r + 2)->k' < hi->¬ c (l.getD (f + k) d) (l.getD (f + k') d) < 0)
  (hs:c (l.getD (f + r) d) (l.getD (f + k) d) < 0):Hp c d (swp d l (f + r) (f + k)) f lo hi (some k):=by
 have ha:=fun x=>swp_at (d:=d) (l:=l) (i:=f + r) (j:=f + k) (k:=x) (by omega) (by omega)
 refine ⟨fun i k' h1 h2 h3 h4=>?_,fun i j k' e h1 h2 h3 h4=>?_⟩
 ·have h4:¬ i=k:=fun e=>h4 (by rw [e])
  rw [ha,ha,if_neg (show ¬ f + i=f + k by omega)]
  by_cases er:i=r
  ·subst er
   rw [if_pos rfl]
   by_cases ek:k'=k
   ·rw [if_pos (by omega)]; exact ho.asy _ _ hs
   ·rw [if_neg (by omega),if_neg (by omega)]; exact hm k' h2 h3
  ·rw [if_neg (by omega)]
   by_cases ek:k'=r
   ·subst ek
    rw [if_neg (by omega),if_pos rfl]
    exact h.2 i k' k rfl h1 h2 hk hkh
   ·rw [if_neg (by omega),if_neg (by omega)]
    exact h.1 i k' h1 h2 h3 (by simp; omega)
 ·cases e
  rw [ha,ha]
  have:i=r:=by omega
  subst this
  rw [if_neg (by omega),if_pos rfl,if_neg (by omega),if_neg (by omega)]
  exact h.1 k k' (by omega) h3 h4 (by simp; omega)
/-- One more place joins the heap from below. -/
theorem Hp.more {l:List α} {f lo hi:Nat} (h:Hp c d l f (lo + 1) hi none):Hp c d l f lo hi (some lo):=
 ⟨fun i k h1 h2 h3 h4=>h.1 i k (by have:¬ lo=i:=fun e=>h4 (by rw [e]); omega) h2 h3 (by simp),fun i j k e h1 h2 h3 h4=>by cases e; omega⟩
/-- The greatest element goes behind the heap. -/
theorem Hp.pop {l:List α} {f hi:Nat} (h:Hp c d l f 0 (hi + 1) none) (hl:f + hi < l.length):Hp c d (swp d l f (f + hi)) f 0 hi (some 0):=by
 have ha:=fun x=>swp_at (d:=d) (l:=l) (i:=f) (j:=f + hi) (k:=x) (by omega) (by omega)
 refine ⟨fun i k h1 h2 h3 h4=>?_,fun i j k e h1 h2 h3 h4=>by cases e; omega⟩
 have h4:¬ i=0:=fun e=>h4 (by rw [e])
 rw [ha,ha,if_neg (by omega),if_neg (by omega),if_neg (by omega),if_neg (by omega)]
 exact h.1 i k h1 h2 (by omega) (by simp)
/-- The two parts of a list: nothing in front is greater than anything behind. -/
def Sep (c:α->α->Int) (d:α) (l:List α) (a m b:Nat):Prop:=∀p q,a<=p->p < m->m<=q->q < b->¬ c (l.getD q d) (l.getD p d) < 0
theorem Seg.sep {l m:List α} {a b x y z:Nat} (h:Seg d l m a b) (hs:Sep c d l x y z) (hc:(x<=a/\b<=y) \/ (y<=a/\b<=z) \/ b<=x \/ z<=a):Sep c d m x y z:=by
 intro p q h1 h2 h3 h4
 have key:∀k,∃k',m.getD k d=l.getD k' d/\(k=k' \/ a<=k/\k < b/\a<=k'/\k' < b):=fun k=>by
  by_cases hk:a<=k/\k < b
  ·obtain ⟨k',e1,e2,e⟩:=h.mem k hk.1 hk.2
   exact ⟨k',e,.inr ⟨hk.1,hk.2,e1,e2⟩⟩
  ·exact ⟨k,h.out k hk,.inl rfl⟩
 obtain ⟨p',e1,e2⟩:=key p
 obtain ⟨q',f1,f2⟩:=key q
 rw [e1,f1]
 exact hs p' q' (by omega) (by omega) (by omega) (by omega)
theorem Seg.asc {l m:List α} {a b x y:Nat} (h:Seg d l m a b) (hs:Asc c d l x y) (hc:y<=a \/ b<=x):Asc c d m x y:=by
 intro p q h1 h2 h3
 rw [h.out p (by omega),h.out q (by omega)]
 exact hs p q h1 h2 h3
theorem Asc.join {l:List α} {a m b:Nat} (h1:Asc c d l a m) (h2:Asc c d l m b) (h3:Sep c d l a m b):Asc c d l a b:=by
 intro p q g1 g2 g3
 by_cases hq:q < m
 ·exact h1 p q g1 g2 hq
 ·by_cases hp:m<=p
  ·exact h2 p q hp g2 g3
  ·exact h3 p q g1 (by omega) (by omega) g3
end
end Go.Proofs.Tryz
/- Rows whose elements change places. -/
namespace Go.Eng
open Go.Proofs.Tryz
variable {α:Type} {sz:Nat} {R:View->Value->α->Prop} {V V':View} {d:α}
theorem Row.get {vs:List Value} {al:List α} (h:Row sz R V vs al) {i:Nat} (hi:i < al.length) (hs:0 < sz) :
  ∃xs:List Value,xs.length=sz/\R V (.agg xs.toArray) (al.getD i d)/\i * sz + sz<=vs.length/\(vs.drop (i * sz)).take sz=xs:=by
 obtain ⟨xs,h1,h2,h3⟩:=h.at_ i hi
 have hl:=h.len_le hs
 have:(i + 1) * sz<=al.length * sz:=Nat.mul_le_mul_right _ hi
 rw [Nat.succ_mul] at this
 refine ⟨xs,h1,by simpa [List.getD_eq_getElem?_getD,hi] using h2,by omega,?_⟩
 apply List.ext_getElem?
 intro j
 rw [List.getElem?_take]
 split
 ·rename_i hj
  rw [List.getElem?_drop]
  have hx:j < xs.length:=by omega
  rw [h3 j _ (List.getElem?_eq_getElem hx),List.getElem?_eq_getElem hx]
 ·rename_i hj
  rw [List.getElem?_eq_none (by omega)]
theorem Row.put {vs:List Value} {al:List α} (h:Row sz R V vs al) {i:Nat} (hi:i < al.length) (hs:0 < sz) {xs:List Value} {a:α} (hx:xs.length=sz) (ha:R V (.agg xs.toArray) a) :
  Row sz R V (setVals vs (i * sz) xs) (al.set i a):=by
 have hl:=h.len_le hs
 have h9:∀k,k < al.length->k * sz + sz<=vs.length:=fun k hk=>by
  have:(k + 1) * sz<=al.length * sz:=Nat.mul_le_mul_right _ hk
  rw [Nat.succ_mul] at this
  omega
 have hi9:=h9 i hi
 rw [setVals_eq (by omega)]
 have ht:(vs.take (i * sz)).length=i * sz:=by rw [List.length_take]; omega
 refine ⟨fun k hk=>?_⟩
 rw [List.length_set] at hk
 by_cases e:k=i
 ·subst e
  refine ⟨xs,hx,by simpa using ha,fun j x hj=>?_⟩
  have hj':=(List.getElem?_eq_some_iff.1 hj).1
  rw [List.append_assoc,List.getElem?_append_right (by omega),ht,Nat.add_sub_cancel_left,List.getElem?_append_left hj']
  exact hj
 ·obtain ⟨ys,y1,y2,y3⟩:=h.at_ k hk
  refine ⟨ys,y1,by rw [List.getElem_set_ne (fun e'=>e e'.symm)]; exact y2,fun j x hj=>?_⟩
  have hj':=(List.getElem?_eq_some_iff.1 hj).1
  by_cases lt:k < i
  ·have:(k + 1) * sz<=i * sz:=Nat.mul_le_mul_right _ lt
   rw [Nat.succ_mul] at this
   rw [List.append_assoc,List.getElem?_append_left (by omega),List.getElem?_take,if_pos (by omega)]
   exact y3 j x hj
  ·have:(i + 1) * sz<=k * sz:=Nat.mul_le_mul_right _ (by omega)
   rw [Nat.succ_mul] at this
   rw [List.getElem?_append_right (by rw [List.length_append]; omega),List.length_append,ht,hx,List.getElem?_drop]
   rw [show i * sz + sz + (k * sz + j - (i * sz + sz))=k * sz + j by omega]
   exact y3 j x hj
theorem setVals_len {vs xs:List Value} {o:Nat} (h:o + xs.length<=vs.length):(setVals vs o xs).length=vs.length:=by
 rw [setVals_eq h]; simp only [List.length_append,List.length_take,List.length_drop]; omega
/-- Two elements change places. -/
theorem Row.swap {vs:List Value} {al:List α} (h:Row sz R V vs al) {i j:Nat} (hi:i < al.length) (hj:j < al.length) (hs:0 < sz) {xs ys:List Value} (hx:xs.length=sz) (hy:ys.length=sz) (h1:R V (.agg xs.toArray) (al.getD i d)) (h2:R V (.agg ys.toArray) (al.getD j d)) :
  Row sz R V (setVals (setVals vs (i * sz) ys) (j * sz) xs) (swp d al i j):=by
 have:=h.put hi hs hy h2
 exact this.put (by simpa using hj) hs hx h1
end Go.Eng
/- Plain: what slices.CompactFunc leaves of a list. -/
namespace Go.Proofs.Tryz
open Go.Eng Go.Big
section
variable {α:Type} (e:α->α->Bool)
/-- What is kept of a list behind p: each element that is not like the one ahead of it. -/
def cptF:α->List α->List α
 | _,[]=>[]
 | p,a :: r=>if e a p then cptF a r else a :: cptF a r
def cmpt:List α->List α
 | []=>[]
 | a :: r=>a :: cptF e a r
variable {e}
theorem cptF_snoc {d:α}:∀{r:List α} {p a:α},cptF e p (r++[a])=cptF e p r++if e a ((p :: r).getD r.length d) then [] else [a]
 | [],p,a=>by simp [cptF]
 | b :: r,p,a=>by
  have ih:=cptF_snoc (d:=d) (r:=r) (p:=b) (a:=a)
  have hd:(p :: b :: r).getD (b :: r).length d=(b :: r).getD r.length d:=rfl
  rw [hd,List.cons_append]
  simp only [cptF]
  split
  ·exact ih
  ·rw [ih]; rfl
theorem cmpt_take {d:α} {l:List α} {k:Nat} (hk:k + 1 < l.length):cmpt e (l.take (k + 2))=cmpt e (l.take (k + 1))++if e (l.getD (k + 1) d) (l.getD k d) then [] else [l.getD (k + 1) d]:=by
 cases l with
 | nil=>simp at hk
 | cons a r=>
  have hk':k < r.length:=by simpa using hk
  have h1:(a :: r).take (k + 2)=a :: (r.take k++[r[k]]):=by
   rw [List.take_succ_cons,List.take_append_getElem hk']
  have h2:(a :: r).take (k + 1)=a :: r.take k:=List.take_succ_cons
  rw [h1,h2]
  simp only [cmpt]
  rw [cptF_snoc (d:=d)]
  have e1:(a :: r).getD (k + 1) d=r[k]:=by rw [List.getD_cons_succ,List.getD_eq_getElem?_getD,List.getElem?_eq_getElem hk']; rfl
  have e2:(a :: r.take k).getD (r.take k).length d=(a :: r).getD k d:=by
   have hl:(r.take k).length=k:=by rw [List.length_take]; omega
   rw [hl]
   cases k with
   | zero=>rfl
   | succ k=>
    rw [List.getD_cons_succ,List.getD_cons_succ,List.getD_eq_getElem?_getD,List.getD_eq_getElem?_getD,List.getElem?_take,if_pos (by omega)]
  rw [e1,e2,List.cons_append]
theorem cptF_len:∀{r:List α} {p:α},(cptF e p r).length<=r.length
 | [],p=>Nat.le_refl _
 | b :: r,p=>by
  have:=cptF_len (r:=r) (p:=b)
  unfold cptF
  split <;> simp <;> omega
theorem cmpt_len {l:List α}:(cmpt e l).length<=l.length:=by
 cases l with
 | nil=>exact Nat.le_refl _
 | cons a r=>have:=cptF_len (e:=e) (r:=r) (p:=a); simp [cmpt]; omega
theorem cptF_lt {d:α} {l:List α} {k:Nat} (hk:k + 1 < l.length) (he:e (l.getD (k + 1) d) (l.getD k d)=true):(cmpt e l).length < l.length:=by
 have key:∀j,k + 2 + j<=l.length->(cmpt e (l.take (k + 2 + j))).length < k + 2 + j:=by
  intro j
  induction j with
  | zero=>
   intro _
   rw [Nat.add_zero,cmpt_take (d:=d) hk,he,if_pos rfl,List.append_nil]
   have:=cmpt_len (e:=e) (l:=l.take (k + 1))
   rw [List.length_take] at this
   omega
  | succ j ih=>
   intro hj
   have:=ih (by omega)
   rw [show k + 2 + (j + 1)=k + 1 + j + 2 by omega,cmpt_take (d:=d) (by omega),List.length_append,show k + 1 + j + 1=k + 2 + j by omega]
   split <;> simp <;> omega
 have:=key (l.length - (k + 2)) (by omega)
 rwa [show k + 2 + (l.length - (k + 2))=l.length by omega,List.take_length] at this
theorem cmpt_one {l:List α} (h:l.length<=1):cmpt e l=l:=by
 match l,h with
 | [],_=>rfl
 | [a],_=>rfl
 | _ :: _ :: _,h=>simp at h
end
end Go.Proofs.Tryz
namespace Go.Eng
open Go.Proofs.Tryz
section
variable {α:Type} {sz:Nat} {R:View->Value->α->Prop} {V:View} {d:α}
/-- The first elements of a row whose end is cleared. -/
theorem Row.cleared {vs zs:List Value} {al:List α} (h:Row sz R V vs al) {k:Nat} (hk:k<=al.length) (hs:0 < sz):Row sz R V (vs.take (k * sz)++zs) (al.take k):=by
 have hl:=h.len_le hs
 refine ⟨fun i hi=>?_⟩
 rw [List.length_take] at hi
 obtain ⟨xs,h1,h2,h3⟩:=h.at_ i (by omega)
 refine ⟨xs,h1,by rw [List.getElem_take]; exact h2,fun j x hj=>?_⟩
 have hj':=(List.getElem?_eq_some_iff.1 hj).1
 have h4:(i + 1) * sz<=k * sz:=Nat.mul_le_mul_right _ (by omega)
 have h5:k * sz<=al.length * sz:=Nat.mul_le_mul_right _ hk
 rw [Nat.succ_mul] at h4
 rw [List.getElem?_append_left (by rw [List.length_take]; omega),List.getElem?_take,if_pos (by omega)]
 exact h3 j x hj
end
end Go.Eng
/- Contracts of the rational numbers: Of, API, Mul, Inv, Quo. -/
namespace Go.Proofs.Tryz
open Go.Eng Go.Big
/-- A number of package api in normal form. -/
def RA (V:View) (v:Value) (q:Rat):Prop:=∃p n c p' n' c',v=.agg #[.bool (decide (q.num < 0)),.slice p n c,.slice p' n' c']/\RD V p n c (digs q.num.natAbs)/\RD V p' n' c' (digs q.den)
theorem RA.le {V V':View} {v:Value} {q:Rat} (h:RA V v q) (l:V.Le V'):RA V' v q:=by
 obtain ⟨p,n,c,p',n',c',e,h1,h2⟩:=h
 exact ⟨p,n,c,p',n',c',e,h1.le l,h2.le l⟩
end Go.Proofs.Tryz
