/- A part of the proof (joined by program from: VSortP, SrtP, VCmptP, CmptP, SrtS, RowX, LocB). -/
import Derived.Test.YtcbcbdbheiopbaaGreatDoorL5
import Derived.Test.YtcbcbdbheiopbaaGreatDoorL17
import Derived.Test.YtcbcbdbheiopbaaGreatDoorL16
import Derived.Test.YtcbcbdbheiopbaaGreatDoorL15
import Derived.Test.YtcbcbdbheiopbaaGreatDoorL14
set_option linter.unusedVariables false
open Go.IntKind (i64 u64 u32)
/- By program: the conditions of the functions, from their loaded code. -/
namespace Go.Proofs.Tryz
open Go.Eng
open Go.Value renaming int→I,pointer→P,slice→S,agg→A,bool→B,tuple→T
open Go.IntKind renaming i64→J,u64→U,u32→W
set_option maxRecDepth 100000
theorem vc_slices_insertionSortCmpFunc_P (k e i:Nat) (q:List Value) (b d:Int) (V:View) (R:VR) (hw100000:V.w.heap[k]?=some (.cells q.toArray 145 (0,0))) (hx100000:V.X k) (h:(∃(r:(Int × (List Value))->VP) (a6:(Int × (List Value))->Nat),(∃s,(s5 0 e i b d (((234:FuncId)=234)/\((J.wrap (b + (1:Int)))=s.1)/\(q=s.2)))/\r s V)/\∀(f:Int × (List Value)) (l:View),V.Le l->r f l->(true=true/\(((decide (f.1 < d))=true->(∃(t:(Int × (List Value))->VP) (a7:(Int × (List Value))->Nat),(∃u,(s5 0 e i b d (((234:FuncId)=234)/\sm f.1/\(f.1=u.1)/\(f.2=u.2)))/\t u l)/\∀(a:Int × (List Value)) (m:View),l.Le m->t a m->(true=true/\(∃x:Bool->VP,(((decide (a.1 > b))=true->(0<=a.1/\a.1 < (e:Int))/\(∃a8,∃a9,∃b0,∃b1,∃b2,∃b3,((0 + (a.1.toNat * 6)) + 6<=a.2.length/\(a.2.drop (0 + (a.1.toNat * 6))).take 6=[I J a8,I J a9,P b0,I J b1,I J b2,P b3])/\(0<=(J.wrap (a.1 - (1:Int)))/\(J.wrap (a.1 - (1:Int))) < (e:Int))/\(∃b4,∃b5,∃b6,∃b7,∃b8,∃b9,((0 + (((J.wrap (a.1 - (1:Int))).toNat) * 6)) + 6<=a.2.length/\(a.2.drop (0 + (((J.wrap (a.1 - (1:Int))).toNat) * 6))).take 6=[I J b4,I J b5,P b6,I J b7,I J b8,P b9])/\(Ca m 234 #[A #[I J a8,I J a9,P b0,I J b1,I J b2,P b3],A #[I J b4,I J b5,P b6,I J b7,I J b8,P b9]] fun c9 d0=>∃c0,c9=I J c0/\(∃c1:Bool,(s5 0 e i b d (((234:FuncId)=234)/\sm f.1/\sm a.1/\((decide (c0 < (0:Int)))=c1)/\sm a.2))/\x c1 d0)))))/\((decide (a.1 > b))=false->(∃c2:Bool,(s5 0 e i b d (((234:FuncId)=234)/\sm f.1/\sm a.1/\(false=c2)/\sm a.2))/\x c2 m)))/\∀(y:Bool) (n:View),m.Le n->x y n->(true=true/\((y=true->(0<=(J.wrap (a.1 - (1:Int)))/\(J.wrap (a.1 - (1:Int))) < (e:Int))/\(∃z,∃a0,∃a1,∃a2,∃a3,∃a4,((0 + (((J.wrap (a.1 - (1:Int))).toNat) * 6)) + 6<=a.2.length/\(a.2.drop (0 + (((J.wrap (a.1 - (1:Int))).toNat) * 6))).take 6=[I J z,I J a0,P a1,I J a2,I J a3,P a4])/\(0<=a.1/\a.1 < (e:Int))/\(∃c3,∃c4,∃c5,∃c6,∃c7,∃c8,((0 + (a.1.toNat * 6)) + 6<=a.2.length/\(a.2.drop (0 + (a.1.toNat * 6))).take 6=[I J c3,I J c4,P c5,I J c6,I J c7,P c8])/\(0<=a.1/\a.1 < (e:Int))/\((0 + (a.1.toNat * 6)) + 6<=a.2.length)/\(0<=(J.wrap (a.1 - (1:Int)))/\(J.wrap (a.1 - (1:Int))) < (e:Int))/\((0 + (((J.wrap (a.1 - (1:Int))).toNat) * 6)) + 6<=(setVals a.2 (0 + (a.1.toNat * 6)) [I J z,I J a0,P a1,I J a2,I J a3,P a4]).length)/\(∃o:Int × (List Value),a7 o < a7 a/\(s5 0 e i b d (((234:FuncId)=234)/\sm f.1/\((J.wrap (a.1 - (1:Int)))=o.1)/\((setVals (setVals a.2 (0 + (a.1.toNat * 6)) [I J z,I J a0,P a1,I J a2,I J a3,P a4]) (0 + (((J.wrap (a.1 - (1:Int))).toNat) * 6)) [I J c3,I J c4,P c5,I J c6,I J c7,P c8])=o.2)))/\t o n))))/\(y=false->(∃p:Int × (List Value),a6 p < a6 f/\(s5 0 e i b d (((234:FuncId)=234)/\((J.wrap (f.1 + (1:Int)))=p.1)/\(a.2=p.2)))/\r p n))))))))/\((decide (f.1 < d))=false->(∀a5,l.Le a5->a5.w.heap[k]?=some (.cells f.2.toArray 145 (0,0))->R (T #[]) a5)))))):
 Acts prog 330 #[S (some ⟨k,0,none⟩) e i,I J b,I J d,.func (.func 234) #[] #[]] V R:=
 fn_does (LF:=LF0) (RF:=[1000015]) (β0:=(upd1 (fun _=>0) 100000 k)) tab_ok mixed [(1,⟨Int × (List Value),false,[0,1,2,3],[],fun g=>[(8,.c (.v (I J g.1)))],fun g=>[(100000,⟨.row g.2,145⟩)]⟩),(4,⟨Int × (List Value),false,[0,1,2,3,8],[],fun g=>[(9,.c (.v (I J g.1)))],fun g=>[(100000,⟨.row g.2,145⟩)]⟩)] [(600004,⟨Bool,false,[0,1,2,3,8,9],[100000],fun g=>[(34,.c (.v (B g)))],fun g=>[]⟩)] func330 (by kernel_rfl) [(0,.c (.slc 100000 0 e i)),(1,.c (.v (I J b))),(2,.c (.v (I J d))),(3,.c (.clo 234 []))] [(100000,⟨.row q,145⟩)] (by kernel_rfl) ⟨⟨hw100000,hx100000⟩,trivial,trivial⟩ h (by kernel_rfl)
theorem vc_slices_pdqsortCmpFunc_P (o b d:Nat) (c4:List Value) (c5 c6 c7:Int) (V:View) (R:VR) (hw100000:V.w.heap[o]?=some (.cells c4.toArray 145 (0,0))) (hx100000:V.X o) (h:(∃(t:(Int × Int × Int × Bool × Bool × (List Value))->VP) (r:(Int × Int × Int × Bool × Bool × (List Value))->Nat),(∃p,(s3 0 b d (((234:FuncId)=234)/\(c5=p.1)/\(c6=p.2.1)/\(c7=p.2.2.1)/\(true=p.2.2.2.1)/\(true=p.2.2.2.2.1)/\(c4=p.2.2.2.2.2)))/\t p V)/\∀(a:Int × Int × Int × Bool × Bool × (List Value)) (q:View),V.Le q->t a q->(true=true/\(((decide ((J.wrap (a.2.1 - a.1))<=(12:Int)))=true->(∀a8,q.Le a8->∀u:Nat,(a8.w.heap[u]?=some (.cells a.2.2.2.2.2.toArray 145 (0,0)))->(a8.H u)->Acts prog 330 #[S (some ⟨u,0,none⟩) b d,I J a.1,I J a.2.1,.func (.func 234) #[] #[]] (a8.lend [u]) fun k3 e8=> k3=T #[]/\∃e9:List Value,e8.w.heap[u]?=some (.cells e9.toArray 145 (0,0))/\(∀c8,e8.shut.Le c8->c8.w.heap[o]?=some (.cells e9.toArray 145 (0,0))->R (T #[]) c8)))/\((decide ((J.wrap (a.2.1 - a.1))<=(12:Int)))=false->(((a.2.2.1 == (0:Int))=true->(∀a9,q.Le a9->∀x:Nat,(a9.w.heap[x]?=some (.cells a.2.2.2.2.2.toArray 145 (0,0)))->(a9.H x)->Acts prog 331 #[S (some ⟨x,0,none⟩) b d,I J a.1,I J a.2.1,.func (.func 234) #[] #[]] (a9.lend [x]) fun k4 f0=> k4=T #[]/\∃f1:List Value,f0.w.heap[x]?=some (.cells f1.toArray 145 (0,0))/\(∀c9,f0.shut.Le c9->c9.w.heap[o]?=some (.cells f1.toArray 145 (0,0))->R (T #[]) c9)))/\((a.2.2.1 == (0:Int))=false->(∃d0:(Int × (List Value))->VP,(((!a.2.2.2.1)=true->(∀b0,q.Le b0->∀y:Nat,(b0.w.heap[y]?=some (.cells a.2.2.2.2.2.toArray 145 (0,0)))->(b0.H y)->Acts prog 332 #[S (some ⟨y,0,none⟩) b d,I J a.1,I J a.2.1,.func (.func 234) #[] #[]] (b0.lend [y]) fun k5 f2=> k5=T #[]/\∃f3:List Value,f2.w.heap[y]?=some (.cells f3.toArray 145 (0,0))/\(∃d1,(s5 0 b d a.1 a.2.1 (((234:FuncId)=234)/\sm a.2.2.2.1/\sm a.2.2.2.2.1/\((J.wrap (a.2.1 - a.1))=(J.wrap (a.2.1 - a.1)))/\((J.wrap (a.2.2.1 - (1:Int)))=d1.1)/\(f3=d1.2)))/\d0 d1 f2.shut)))/\((!a.2.2.2.1)=false->(∃d2,(s5 0 b d a.1 a.2.1 (((234:FuncId)=234)/\sm a.2.2.2.1/\sm a.2.2.2.2.1/\((J.wrap (a.2.1 - a.1))=(J.wrap (a.2.1 - a.1)))/\(a.2.2.1=d2.1)/\(a.2.2.2.2.2=d2.2)))/\d0 d2 q)))/\∀(g:Int × (List Value)) (d3:View),q.Le d3->d0 g d3->(true=true/\(∀b1,d3.Le b1->∀z:Nat,(b1.w.heap[z]?=some (.cells g.2.toArray 145 (0,0)))->(b1.H z)->Acts prog 333 #[S (some ⟨z,0,none⟩) b d,I J a.1,I J a.2.1,.func (.func 234) #[] #[]] (b1.lend [z]) fun k6 b2=>∃d4,∃b3,k6=T #[I J d4,I J b3]/\∃d5:List Value,b2.w.heap[z]?=some (.cells d5.toArray 145 (0,0))/\(∃d6:(Int × Int × (List Value))->VP,(((b3 == (2:Int))=true->(∀b4,b2.shut.Le b4->∀a0:Nat,(b4.w.heap[a0]?=some (.cells d5.toArray 145 (0,0)))->(b4.H a0)->Acts prog 334 #[S (some ⟨a0,0,none⟩) b d,I J a.1,I J a.2.1,.func (.func 234) #[] #[]] (b4.lend [a0]) fun k7 f4=> k7=T #[]/\∃f5:List Value,f4.w.heap[a0]?=some (.cells f5.toArray 145 (0,0))/\(∃b5,(s6 0 b d a.1 a.2.1 g.1 (((234:FuncId)=234)/\sm a.2.2.2.1/\sm a.2.2.2.2.1/\((J.wrap (a.2.1 - a.1))=(J.wrap (a.2.1 - a.1)))/\((J.wrap ((J.wrap (a.2.1 - (1:Int))) - (J.wrap (d4 - a.1))))=b5.1)/\((1:Int)=b5.2.1)/\(f5=b5.2.2)))/\d6 b5 f4.shut)))/\((b3 == (2:Int))=false->(∃b6,(s6 0 b d a.1 a.2.1 g.1 (((234:FuncId)=234)/\sm a.2.2.2.1/\sm a.2.2.2.2.1/\((J.wrap (a.2.1 - a.1))=(J.wrap (a.2.1 - a.1)))/\(d4=b6.1)/\(b3=b6.2.1)/\(d5=b6.2.2)))/\d6 b6 b2.shut)))/\∀(f:Int × Int × (List Value)) (s:View),b2.shut.Le s->d6 f s->(true=true/\(∃b7:Bool->VP,((a.2.2.2.1=true->((a.2.2.2.2.1=true->(∃f6:Bool,(s6 0 b d a.1 a.2.1 g.1 (((234:FuncId)=234)/\sm a.2.2.2.1/\sm a.2.2.2.2.1/\((J.wrap (a.2.1 - a.1))=(J.wrap (a.2.1 - a.1)))/\sm f.1/\((f.2.1 == (1:Int))=f6)/\sm f.2.2))/\b7 f6 s))/\(a.2.2.2.2.1=false->(∃f7:Bool,(s6 0 b d a.1 a.2.1 g.1 (((234:FuncId)=234)/\sm a.2.2.2.1/\sm a.2.2.2.2.1/\((J.wrap (a.2.1 - a.1))=(J.wrap (a.2.1 - a.1)))/\sm f.1/\(false=f7)/\sm f.2.2))/\b7 f7 s))))/\(a.2.2.2.1=false->(∃f8:Bool,(s6 0 b d a.1 a.2.1 g.1 (((234:FuncId)=234)/\sm a.2.2.2.1/\sm a.2.2.2.2.1/\((J.wrap (a.2.1 - a.1))=(J.wrap (a.2.1 - a.1)))/\sm f.1/\(false=f8)/\sm f.2.2))/\b7 f8 s)))/\∀(d7:Bool) (a1:View),s.Le a1->b7 d7 a1->(true=true/\(∃d8:(List Value)->VP,((d7=true->(∀b8,a1.Le b8->∀a2:Nat,(b8.w.heap[a2]?=some (.cells f.2.2.toArray 145 (0,0)))->(b8.H a2)->Acts prog 335 #[S (some ⟨a2,0,none⟩) b d,I J a.1,I J a.2.1,.func (.func 234) #[] #[]] (b8.lend [a2]) fun k8 d9=>∃e0,k8=B e0/\∃e1:List Value,d9.w.heap[a2]?=some (.cells e1.toArray 145 (0,0))/\((e0=true->(∀e2,d9.shut.Le e2->e2.w.heap[o]?=some (.cells e1.toArray 145 (0,0))->R (T #[]) e2))/\(e0=false->(∃f9:(List Value),(s6 0 b d a.1 a.2.1 g.1 (((234:FuncId)=234)/\sm a.2.2.2.1/\sm a.2.2.2.2.1/\((J.wrap (a.2.1 - a.1))=(J.wrap (a.2.1 - a.1)))/\sm f.1/\(e1=f9)))/\d8 f9 d9.shut)))))/\(d7=false->(∃g0:(List Value),(s6 0 b d a.1 a.2.1 g.1 (((234:FuncId)=234)/\sm a.2.2.2.1/\sm a.2.2.2.2.1/\((J.wrap (a.2.1 - a.1))=(J.wrap (a.2.1 - a.1)))/\sm f.1/\(f.2.2=g0)))/\d8 g0 a1)))/\∀(k:(List Value)) (a3:View),a1.Le a3->d8 k a3->(true=true/\(∃e3:Bool->VP,(((decide (a.1 > (0:Int)))=true->(0<=(J.wrap (a.1 - (1:Int)))/\(J.wrap (a.1 - (1:Int))) < (b:Int))/\(∃g1,∃g2,∃g3,∃g4,∃g5,∃g6,((0 + (((J.wrap (a.1 - (1:Int))).toNat) * 6)) + 6<=k.length/\(k.drop (0 + (((J.wrap (a.1 - (1:Int))).toNat) * 6))).take 6=[I J g1,I J g2,P g3,I J g4,I J g5,P g6])/\(0<=f.1/\f.1 < (b:Int))/\(∃g7,∃g8,∃g9,∃i0,∃i1,∃i2,((0 + (f.1.toNat * 6)) + 6<=k.length/\(k.drop (0 + (f.1.toNat * 6))).take 6=[I J g7,I J g8,P g9,I J i0,I J i1,P i2])/\(Ca a3 234 #[A #[I J g1,I J g2,P g3,I J g4,I J g5,P g6],A #[I J g7,I J g8,P g9,I J i0,I J i1,P i2]] fun k9 l0=>∃i3,k9=I J i3/\(∃i4:Bool,(s6 0 b d a.1 a.2.1 g.1 (((234:FuncId)=234)/\sm a.2.2.2.1/\sm a.2.2.2.2.1/\((J.wrap (a.2.1 - a.1))=(J.wrap (a.2.1 - a.1)))/\sm f.1/\((!(decide (i3 < (0:Int))))=i4)/\sm k))/\e3 i4 l0)))))/\((decide (a.1 > (0:Int)))=false->(∃i5:Bool,(s6 0 b d a.1 a.2.1 g.1 (((234:FuncId)=234)/\sm a.2.2.2.1/\sm a.2.2.2.2.1/\((J.wrap (a.2.1 - a.1))=(J.wrap (a.2.1 - a.1)))/\sm f.1/\(false=i5)/\sm k))/\e3 i5 a3)))/\∀(e4:Bool) (b9:View),a3.Le b9->e3 e4 b9->(true=true/\((e4=true->(∀c0,b9.Le c0->∀a4:Nat,(c0.w.heap[a4]?=some (.cells k.toArray 145 (0,0)))->(c0.H a4)->Acts prog 336 #[S (some ⟨a4,0,none⟩) b d,I J a.1,I J a.2.1,I J f.1,.func (.func 234) #[] #[]] (c0.lend [a4]) fun l1 i6=>∃i7,l1=I J i7/\∃i8:List Value,i6.w.heap[a4]?=some (.cells i8.toArray 145 (0,0))/\(∃l:Int × Int × Int × Bool × Bool × (List Value),r l < r a/\(s3 0 b d (((234:FuncId)=234)/\(i7=l.1)/\(a.2.1=l.2.1)/\(g.1=l.2.2.1)/\(a.2.2.2.1=l.2.2.2.1)/\(a.2.2.2.2.1=l.2.2.2.2.1)/\(i8=l.2.2.2.2.2)))/\t l i6.shut)))/\(e4=false->(∀c1,b9.Le c1->∀a5:Nat,(c1.w.heap[a5]?=some (.cells k.toArray 145 (0,0)))->(c1.H a5)->Acts prog 337 #[S (some ⟨a5,0,none⟩) b d,I J a.1,I J a.2.1,I J f.1,.func (.func 234) #[] #[]] (c1.lend [a5]) fun l2 e5=>∃i,∃e6,l2=T #[I J i,B e6]/\∃e7:List Value,e5.w.heap[a5]?=some (.cells e7.toArray 145 (0,0))/\((8:Int)≠0)/\(((decide ((J.wrap (i - a.1)) < (J.wrap (a.2.1 - i))))=true->(∀c2,e5.shut.Le c2->∀a6:Nat,(c2.w.heap[a6]?=some (.cells e7.toArray 145 (0,0)))->(c2.H a6)->Acts prog 282 #[S (some ⟨a6,0,none⟩) b d,I J a.1,I J i,I J g.1,.func (.func 234) #[] #[]] (c2.lend [a6]) fun l3 i9=> l3=T #[]/\∃k0:List Value,i9.w.heap[a6]?=some (.cells k0.toArray 145 (0,0))/\(∃m:Int × Int × Int × Bool × Bool × (List Value),r m < r a/\(s3 0 b d (((234:FuncId)=234)/\((J.wrap (i + (1:Int)))=m.1)/\(a.2.1=m.2.1)/\(g.1=m.2.2.1)/\((decide ((J.wrap (i - a.1)) ≥ (J.wrap ((J.wrap (a.2.1 - a.1)).tdiv (8:Int)))))=m.2.2.2.1)/\(e6=m.2.2.2.2.1)/\(k0=m.2.2.2.2.2)))/\t m i9.shut)))/\((decide ((J.wrap (i - a.1)) < (J.wrap (a.2.1 - i))))=false->(∀c3,e5.shut.Le c3->∀a7:Nat,(c3.w.heap[a7]?=some (.cells e7.toArray 145 (0,0)))->(c3.H a7)->Acts prog 282 #[S (some ⟨a7,0,none⟩) b d,I J (J.wrap (i + (1:Int))),I J a.2.1,I J g.1,.func (.func 234) #[] #[]] (c3.lend [a7]) fun l4 k1=> l4=T #[]/\∃k2:List Value,k1.w.heap[a7]?=some (.cells k2.toArray 145 (0,0))/\(∃n:Int × Int × Int × Bool × Bool × (List Value),r n < r a/\(s3 0 b d (((234:FuncId)=234)/\(a.1=n.1)/\(i=n.2.1)/\(g.1=n.2.2.1)/\((decide ((J.wrap (a.2.1 - i)) ≥ (J.wrap ((J.wrap (a.2.1 - a.1)).tdiv (8:Int)))))=n.2.2.2.1)/\(e6=n.2.2.2.2.1)/\(k2=n.2.2.2.2.2)))/\t n k1.shut))))))))))))))))))))))))):
 Acts prog 282 #[S (some ⟨o,0,none⟩) b d,I J c5,I J c6,I J c7,.func (.func 234) #[] #[]] V R:=
 fn_does (LF:=LF0) (RF:=[1000015]) (β0:=(upd1 (fun _=>0) 100000 o)) tab_ok mixed [(2,⟨Int × Int × Int × Bool × Bool × (List Value),false,[0,4],[],fun e=>[(1,.c (.v (I J e.1))),(2,.c (.v (I J e.2.1))),(3,.c (.v (I J e.2.2.1))),(10,.c (.v (B e.2.2.2.1))),(11,.c (.v (B e.2.2.2.2.1)))],fun e=>[(100000,⟨.row e.2.2.2.2.2,145⟩)]⟩)] [(8,⟨Int × (List Value),false,[0,1,2,4,10,11,12],[],fun e=>[(3,.c (.v (I J e.1)))],fun e=>[(100000,⟨.row e.2,145⟩)]⟩),(12,⟨Int × Int × (List Value),false,[0,1,2,3,4,10,11,12],[],fun e=>[(13,.c (.v (I J e.1))),(14,.c (.v (I J e.2.1)))],fun e=>[(100000,⟨.row e.2.2,145⟩)]⟩),(600015,⟨Bool,false,[0,1,2,3,4,10,11,12,13],[100000],fun e=>[(75,.c (.v (B e)))],fun e=>[]⟩),(16,⟨(List Value),false,[0,1,2,3,4,10,11,12,13],[],fun e=>[],fun e=>[(100000,⟨.row e,145⟩)]⟩),(600017,⟨Bool,false,[0,1,2,3,4,10,11,12,13],[100000],fun e=>[(97,.c (.v (B e)))],fun e=>[]⟩)] func282 (by kernel_rfl) [(0,.c (.slc 100000 0 b d)),(1,.c (.v (I J c5))),(2,.c (.v (I J c6))),(3,.c (.v (I J c7))),(4,.c (.clo 234 []))] [(100000,⟨.row c4,145⟩)] (by kernel_rfl) ⟨⟨hw100000,hx100000⟩,trivial,trivial⟩ h (by kernel_rfl)
theorem vc_slices_SortFunc_P (a b f:Nat) (g:List Value) (V:View) (R:VR) (hw100000:V.w.heap[a]?=some (.cells g.toArray 145 (0,0))) (hx100000:V.X a) (h:(Ca V 254 #[I U (U.wrap ((b:Int)))] fun n o=>∃k,n=I J k/\(∀e,o.Le e->∀d:Nat,(e.w.heap[d]?=some (.cells g.toArray 145 (0,0)))->(e.H d)->Acts prog 282 #[S (some ⟨d,0,none⟩) b f,I J 0,I J (b:Int),I J k,.func (.func 234) #[] #[]] (e.lend [d]) fun p l=> p=T #[]/\∃m:List Value,l.w.heap[d]?=some (.cells m.toArray 145 (0,0))/\(∀i,l.shut.Le i->i.w.heap[a]?=some (.cells m.toArray 145 (0,0))->R (T #[]) i)))):
 Acts prog 233 #[S (some ⟨a,0,none⟩) b f,.func (.func 234) #[] #[]] V R:=
 fn_does (LF:=LF0) (RF:=[1000015]) (β0:=(upd1 (fun _=>0) 100000 a)) tab_ok mixed [] [] func233 (by kernel_rfl) [(0,.c (.slc 100000 0 b f)),(1,.c (.clo 234 []))] [(100000,⟨.row g,145⟩)] (by kernel_rfl) ⟨⟨hw100000,hx100000⟩,trivial,trivial⟩ h (by kernel_rfl)
theorem vc_slices_insertionSortCmpFunc_nil_P (d f:Int) (V:View) (R:VR) (h:(∃(p:Int->VP) (q:Int->Nat),(∃u:Int,(s5 (none:OA) 0 0 d f (((234:FuncId)=234)/\((J.wrap (d + (1:Int)))=u)))/\p u V)/\∀(g:Int) (n:View),V.Le n->p g n->(true=true/\(((decide (g < f))=true->(∃(w:Int->VP) (c4:Int->Nat),(∃x:Int,(s5 (none:OA) 0 0 d f (((234:FuncId)=234)/\sm g/\(g=x)))/\w x n)/\∀(a:Int) (b:View),n.Le b->w a b->(true=true/\(((decide (a > d))=true->((none:OA).isSome=true)/\(0<=a/\a < (0:Int))/\(∃y,∃z,∃a0,∃a1,∃a2,∃a3,∃i,addrAdd none (a.toNat * 6)=some i/\b.at (i.add 0) (I J y)/\b.at (i.add 1) (I J z)/\b.at (i.add 2) (P a0)/\b.at (i.add 3) (I J a1)/\b.at (i.add 4) (I J a2)/\b.at (i.add 5) (P a3)/\((none:OA).isSome=true)/\(0<=(J.wrap (a - (1:Int)))/\(J.wrap (a - (1:Int))) < (0:Int))/\(∃a4,∃a5,∃a6,∃a7,∃a8,∃a9,∃k,addrAdd none (((J.wrap (a - (1:Int))).toNat) * 6)=some k/\b.at (k.add 0) (I J a4)/\b.at (k.add 1) (I J a5)/\b.at (k.add 2) (P a6)/\b.at (k.add 3) (I J a7)/\b.at (k.add 4) (I J a8)/\b.at (k.add 5) (P a9)/\(Ca b 234 #[A #[I J y,I J z,P a0,I J a1,I J a2,P a3],A #[I J a4,I J a5,P a6,I J a7,I J a8,P a9]] fun b1 e=>∃r,b1=I J r/\(((decide (r < (0:Int)))=true->((none:OA).isSome=true)/\(0<=(J.wrap (a - (1:Int)))/\(J.wrap (a - (1:Int))) < (0:Int))/\(∃b2,∃b3,∃b4,∃b5,∃b6,∃b7,∃l,addrAdd none (((J.wrap (a - (1:Int))).toNat) * 6)=some l/\e.at (l.add 0) (I J b2)/\e.at (l.add 1) (I J b3)/\e.at (l.add 2) (P b4)/\e.at (l.add 3) (I J b5)/\e.at (l.add 4) (I J b6)/\e.at (l.add 5) (P b7)/\((none:OA).isSome=true)/\(0<=a/\a < (0:Int))/\(∃b8,∃b9,∃c0,∃c1,∃c2,∃c3,∃m,addrAdd none (a.toNat * 6)=some m/\e.at (m.add 0) (I J b8)/\e.at (m.add 1) (I J b9)/\e.at (m.add 2) (P c0)/\e.at (m.add 3) (I J c1)/\e.at (m.add 4) (I J c2)/\e.at (m.add 5) (P c3)/\((none:OA).isSome=true)/\(0<=a/\a < (0:Int))/\False)))/\((decide (r < (0:Int)))=false->(∃s:Int,q s < q g/\(s5 (none:OA) 0 0 d f (((234:FuncId)=234)/\((J.wrap (g + (1:Int)))=s)))/\p s e)))))))/\((decide (a > d))=false->(∃t:Int,q t < q g/\(s5 (none:OA) 0 0 d f (((234:FuncId)=234)/\((J.wrap (g + (1:Int)))=t)))/\p t b))))))/\((decide (g < f))=false->(Rt n R (T #[]))))))):
 Acts prog 330 #[S none 0 0,I J d,I J f,.func (.func 234) #[] #[]] V R:=
 fn_does (LF:=LF0) (RF:=[1000015]) (β0:=(fun _=>0)) tab_ok mixed [(1,⟨Int,false,[0,1,2,3],[],fun o=>[(8,.c (.v (I J o)))],fun o=>[]⟩),(4,⟨Int,false,[0,1,2,3,8],[],fun o=>[(9,.c (.v (I J o)))],fun o=>[]⟩)] [] func330 (by kernel_rfl) [(0,.c (.v (S none 0 0))),(1,.c (.v (I J d))),(2,.c (.v (I J f))),(3,.c (.clo 234 []))] [] (by kernel_rfl) trivial h (by kernel_rfl)
theorem vc_slices_pdqsortCmpFunc_nil_P (y z a0:Int) (V:View) (R:VR) (h:(∃(s:(Int × Int × Int × Bool × Bool)->VP) (p:(Int × Int × Int × Bool × Bool)->Nat),(∃q,(s3 (none:OA) 0 0 (((234:FuncId)=234)/\(y=q.1)/\(z=q.2.1)/\(a0=q.2.2.1)/\(true=q.2.2.2.1)/\(true=q.2.2.2.2)))/\s q V)/\∀(a:Int × Int × Int × Bool × Bool) (i:View),V.Le i->s a i->(true=true/\(((decide ((J.wrap (a.2.1 - a.1))<=(12:Int)))=true->(Ca i 330 #[S none 0 0,I J a.1,I J a.2.1,.func (.func 234) #[] #[]] fun e0 e1=> e0=T #[]/\(Rt e1 R (T #[]))))/\((decide ((J.wrap (a.2.1 - a.1))<=(12:Int)))=false->(((a.2.2.1 == (0:Int))=true->(Ca i 331 #[S none 0 0,I J a.1,I J a.2.1,.func (.func 234) #[] #[]] fun e2 e3=> e2=T #[]/\(Rt e3 R (T #[]))))/\((a.2.2.1 == (0:Int))=false->(∃a1:Int->VP,(((!a.2.2.2.1)=true->(Ca i 332 #[S none 0 0,I J a.1,I J a.2.1,.func (.func 234) #[] #[]] fun e4 e5=> e4=T #[]/\(∃b6:Int,(s5 (none:OA) 0 0 a.1 a.2.1 (((234:FuncId)=234)/\sm a.2.2.2.1/\sm a.2.2.2.2/\((J.wrap (a.2.1 - a.1))=(J.wrap (a.2.1 - a.1)))/\((J.wrap (a.2.2.1 - (1:Int)))=b6)))/\a1 b6 e5)))/\((!a.2.2.2.1)=false->(∃b7:Int,(s5 (none:OA) 0 0 a.1 a.2.1 (((234:FuncId)=234)/\sm a.2.2.2.1/\sm a.2.2.2.2/\((J.wrap (a.2.1 - a.1))=(J.wrap (a.2.1 - a.1)))/\(a.2.2.1=b7)))/\a1 b7 i)))/\∀(e:Int) (a2:View),i.Le a2->a1 e a2->(true=true/\(Ca a2 333 #[S none 0 0,I J a.1,I J a.2.1,.func (.func 234) #[] #[]] fun e6 a3=>∃a4,∃u,e6=T #[I J a4,I J u]/\(∃a5:(Int × Int)->VP,(((u == (2:Int))=true->(Ca a3 334 #[S none 0 0,I J a.1,I J a.2.1,.func (.func 234) #[] #[]] fun e7 e8=> e7=T #[]/\(∃a6,(s6 (none:OA) 0 0 a.1 a.2.1 e (((234:FuncId)=234)/\sm a.2.2.2.1/\sm a.2.2.2.2/\((J.wrap (a.2.1 - a.1))=(J.wrap (a.2.1 - a.1)))/\((J.wrap ((J.wrap (a.2.1 - (1:Int))) - (J.wrap (a4 - a.1))))=a6.1)/\((1:Int)=a6.2)))/\a5 a6 e8)))/\((u == (2:Int))=false->(∃a7,(s6 (none:OA) 0 0 a.1 a.2.1 e (((234:FuncId)=234)/\sm a.2.2.2.1/\sm a.2.2.2.2/\((J.wrap (a.2.1 - a.1))=(J.wrap (a.2.1 - a.1)))/\(a4=a7.1)/\(u=a7.2)))/\a5 a7 a3)))/\∀(f:Int × Int) (r:View),a3.Le r->a5 f r->(true=true/\(∃w:Bool->VP,((a.2.2.2.1=true->((a.2.2.2.2=true->(∃b8:Bool,(s6 (none:OA) 0 0 a.1 a.2.1 e (((234:FuncId)=234)/\sm a.2.2.2.1/\sm a.2.2.2.2/\((J.wrap (a.2.1 - a.1))=(J.wrap (a.2.1 - a.1)))/\sm f.1/\((f.2 == (1:Int))=b8)))/\w b8 r))/\(a.2.2.2.2=false->(∃b9:Bool,(s6 (none:OA) 0 0 a.1 a.2.1 e (((234:FuncId)=234)/\sm a.2.2.2.1/\sm a.2.2.2.2/\((J.wrap (a.2.1 - a.1))=(J.wrap (a.2.1 - a.1)))/\sm f.1/\(false=b9)))/\w b9 r))))/\(a.2.2.2.1=false->(∃c0:Bool,(s6 (none:OA) 0 0 a.1 a.2.1 e (((234:FuncId)=234)/\sm a.2.2.2.1/\sm a.2.2.2.2/\((J.wrap (a.2.1 - a.1))=(J.wrap (a.2.1 - a.1)))/\sm f.1/\(false=c0)))/\w c0 r)))/\∀(a8:Bool) (t:View),r.Le t->w a8 t->(true=true/\(∃a9:Unit->VP,((a8=true->(Ca t 335 #[S none 0 0,I J a.1,I J a.2.1,.func (.func 234) #[] #[]] fun e9 c1=>∃b0,e9=B b0/\((b0=true->(Rt c1 R (T #[])))/\(b0=false->(∃f0:Unit,(s6 (none:OA) 0 0 a.1 a.2.1 e (((234:FuncId)=234)/\sm a.2.2.2.1/\sm a.2.2.2.2/\((J.wrap (a.2.1 - a.1))=(J.wrap (a.2.1 - a.1)))/\sm f.1))/\a9 f0 c1)))))/\(a8=false->(∃f1:Unit,(s6 (none:OA) 0 0 a.1 a.2.1 e (((234:FuncId)=234)/\sm a.2.2.2.1/\sm a.2.2.2.2/\((J.wrap (a.2.1 - a.1))=(J.wrap (a.2.1 - a.1)))/\sm f.1))/\a9 f1 t)))/\∀(f2:Unit) (d:View),t.Le d->a9 f2 d->(true=true/\(∃b1:Bool->VP,(((decide (a.1 > (0:Int)))=true->((none:OA).isSome=true)/\(0<=(J.wrap (a.1 - (1:Int)))/\(J.wrap (a.1 - (1:Int))) < (0:Int))/\(∃c3,∃c4,∃c5,∃c6,∃c7,∃c8,∃k,addrAdd none (((J.wrap (a.1 - (1:Int))).toNat) * 6)=some k/\d.at (k.add 0) (I J c3)/\d.at (k.add 1) (I J c4)/\d.at (k.add 2) (P c5)/\d.at (k.add 3) (I J c6)/\d.at (k.add 4) (I J c7)/\d.at (k.add 5) (P c8)/\((none:OA).isSome=true)/\(0<=f.1/\f.1 < (0:Int))/\(∃c9,∃d0,∃d1,∃d2,∃d3,∃d4,∃l,addrAdd none (f.1.toNat * 6)=some l/\d.at (l.add 0) (I J c9)/\d.at (l.add 1) (I J d0)/\d.at (l.add 2) (P d1)/\d.at (l.add 3) (I J d2)/\d.at (l.add 4) (I J d3)/\d.at (l.add 5) (P d4)/\(Ca d 234 #[A #[I J c3,I J c4,P c5,I J c6,I J c7,P c8],A #[I J c9,I J d0,P d1,I J d2,I J d3,P d4]] fun f3 f4=>∃d5,f3=I J d5/\(∃d6:Bool,(s6 (none:OA) 0 0 a.1 a.2.1 e (((234:FuncId)=234)/\sm a.2.2.2.1/\sm a.2.2.2.2/\((J.wrap (a.2.1 - a.1))=(J.wrap (a.2.1 - a.1)))/\sm f.1/\((!(decide (d5 < (0:Int))))=d6)))/\b1 d6 f4)))))/\((decide (a.1 > (0:Int)))=false->(∃d7:Bool,(s6 (none:OA) 0 0 a.1 a.2.1 e (((234:FuncId)=234)/\sm a.2.2.2.1/\sm a.2.2.2.2/\((J.wrap (a.2.1 - a.1))=(J.wrap (a.2.1 - a.1)))/\sm f.1/\(false=d7)))/\b1 d7 d)))/\∀(b2:Bool) (x:View),d.Le x->b1 b2 x->(true=true/\((b2=true->(Ca x 336 #[S none 0 0,I J a.1,I J a.2.1,I J f.1,.func (.func 234) #[] #[]] fun f5 f6=>∃d8,f5=I J d8/\(∃m:Int × Int × Int × Bool × Bool,p m < p a/\(s3 (none:OA) 0 0 (((234:FuncId)=234)/\(d8=m.1)/\(a.2.1=m.2.1)/\(e=m.2.2.1)/\(a.2.2.2.1=m.2.2.2.1)/\(a.2.2.2.2=m.2.2.2.2)))/\s m f6)))/\(b2=false->(Ca x 337 #[S none 0 0,I J a.1,I J a.2.1,I J f.1,.func (.func 234) #[] #[]] fun f7 d9=>∃g,∃b3,f7=T #[I J g,B b3]/\((8:Int)≠0)/\(((decide ((J.wrap (g - a.1)) < (J.wrap (a.2.1 - g))))=true->(Ca d9 282 #[S none 0 0,I J a.1,I J g,I J e,.func (.func 234) #[] #[]] fun f8 f9=> f8=T #[]/\(∃n:Int × Int × Int × Bool × Bool,p n < p a/\(s3 (none:OA) 0 0 (((234:FuncId)=234)/\((J.wrap (g + (1:Int)))=n.1)/\(a.2.1=n.2.1)/\(e=n.2.2.1)/\((decide ((J.wrap (g - a.1)) ≥ (J.wrap ((J.wrap (a.2.1 - a.1)).tdiv (8:Int)))))=n.2.2.2.1)/\(b3=n.2.2.2.2)))/\s n f9)))/\((decide ((J.wrap (g - a.1)) < (J.wrap (a.2.1 - g))))=false->(Ca d9 282 #[S none 0 0,I J (J.wrap (g + (1:Int))),I J a.2.1,I J e,.func (.func 234) #[] #[]] fun g0 g1=> g0=T #[]/\(∃o:Int × Int × Int × Bool × Bool,p o < p a/\(s3 (none:OA) 0 0 (((234:FuncId)=234)/\(a.1=o.1)/\(g=o.2.1)/\(e=o.2.2.1)/\((decide ((J.wrap (a.2.1 - g)) ≥ (J.wrap ((J.wrap (a.2.1 - a.1)).tdiv (8:Int)))))=o.2.2.2.1)/\(b3=o.2.2.2.2)))/\s o g1))))))))))))))))))))))))):
 Acts prog 282 #[S none 0 0,I J y,I J z,I J a0,.func (.func 234) #[] #[]] V R:=
 fn_does (LF:=LF0) (RF:=[1000015]) (β0:=(fun _=>0)) tab_ok mixed [(2,⟨Int × Int × Int × Bool × Bool,false,[0,4],[],fun b=>[(1,.c (.v (I J b.1))),(2,.c (.v (I J b.2.1))),(3,.c (.v (I J b.2.2.1))),(10,.c (.v (B b.2.2.2.1))),(11,.c (.v (B b.2.2.2.2)))],fun b=>[]⟩)] [(8,⟨Int,false,[0,1,2,4,10,11,12],[],fun b=>[(3,.c (.v (I J b)))],fun b=>[]⟩),(12,⟨Int × Int,false,[0,1,2,3,4,10,11,12],[],fun b=>[(13,.c (.v (I J b.1))),(14,.c (.v (I J b.2)))],fun b=>[]⟩),(600015,⟨Bool,false,[0,1,2,3,4,10,11,12,13],[],fun b=>[(75,.c (.v (B b)))],fun b=>[]⟩),(16,⟨Unit,false,[0,1,2,3,4,10,11,12,13],[],fun b=>[],fun b=>[]⟩),(600017,⟨Bool,false,[0,1,2,3,4,10,11,12,13],[],fun b=>[(97,.c (.v (B b)))],fun b=>[]⟩)] func282 (by kernel_rfl) [(0,.c (.v (S none 0 0))),(1,.c (.v (I J y))),(2,.c (.v (I J z))),(3,.c (.v (I J a0))),(4,.c (.clo 234 []))] [] (by kernel_rfl) trivial h (by kernel_rfl)
theorem vc_slices_SortFunc_nil_P (V:View) (R:VR) (h:(Ca V 254 #[I U (U.wrap ((0:Int)))] fun d e=>∃a,d=I J a/\(Ca e 282 #[S none 0 0,I J 0,I J (0:Int),I J a,.func (.func 234) #[] #[]] fun f g=> f=T #[]/\(Rt g R (T #[]))))):
 Acts prog 233 #[S none 0 0,.func (.func 234) #[] #[]] V R:=
 fn_does (LF:=LF0) (RF:=[1000015]) (β0:=(fun _=>0)) tab_ok mixed [] [] func233 (by kernel_rfl) [(0,.c (.v (S none 0 0))),(1,.c (.clo 234 []))] [] (by kernel_rfl) trivial h (by kernel_rfl)
end Go.Proofs.Tryz
/- Sorting (slices.SortFunc) of bspregion/geo.Pt (turned by mksort.py from the texts on changes). -/
namespace Go.Proofs.Tryz
open Go.Eng Go.Big
/-- The row that is sorted. -/
structure SRP (V:View) (n:Nat) (vs:List Value) (l:List (Rat × Rat)):Prop where
 row:Row 6 RCP V vs l
 len:n=l.length
 few:l.length < 50
theorem SRP.le {V V':View} {n:Nat} {vs:List Value} {l:List (Rat × Rat)} (h:SRP V n vs l) (e:V.Le V'):SRP V' n vs l:=⟨h.row.le fun _ _ g=>RCP.le g e,h.len,h.few⟩
theorem SRP.get {V:View} {n:Nat} {vs:List Value} {l:List (Rat × Rat)} (h:SRP V n vs l) {k:Nat} (hk:k < l.length):∃(x y:Int) (p:OA) (xb yb:Int) (pb:OA),
  ((0 + k * 6) + 6<=vs.length/\(vs.drop (0 + k * 6)).take 6=[.int .i64 x,.int .i64 y,.pointer p,.int .i64 xb,.int .i64 yb,.pointer pb])/\RCP V (.agg #[.int .i64 x,.int .i64 y,.pointer p,.int .i64 xb,.int .i64 yb,.pointer pb]) (l.getD k dCP):=by
 obtain ⟨xs,-,h2,h3,h4⟩:=h.row.get (d:=dCP) hk (by decide)
 have h20:=h2
 obtain ⟨x,y,p,xb,yb,pb,e⟩:=h2.shape
 have e:=congrArg Array.toList (Value.agg.inj e)
 dsimp only at e
 subst e
 rw [Nat.zero_add]
 exact ⟨x,y,p,xb,yb,pb,⟨h3,h4⟩,h20⟩
theorem SRP.swap {V:View} {n:Nat} {vs:List Value} {l:List (Rat × Rat)} (h:SRP V n vs l) {i j:Nat} (hi:i < l.length) (hj:j < l.length) {x y:Int} {p:OA} {xb yb:Int} {pb:OA} {x' y':Int} {p':OA} {xb' yb':Int} {pb':OA}
  (h1:RCP V (.agg #[.int .i64 x,.int .i64 y,.pointer p,.int .i64 xb,.int .i64 yb,.pointer pb]) (l.getD i dCP)) (h2:RCP V (.agg #[.int .i64 x',.int .i64 y',.pointer p',.int .i64 xb',.int .i64 yb',.pointer pb']) (l.getD j dCP)) :
  (0 + i * 6) + 6<=vs.length/\(0 + j * 6) + 6<=(setVals vs (0 + i * 6) [.int .i64 x',.int .i64 y',.pointer p',.int .i64 xb',.int .i64 yb',.pointer pb']).length /\
  SRP V n (setVals (setVals vs (0 + i * 6) [.int .i64 x',.int .i64 y',.pointer p',.int .i64 xb',.int .i64 yb',.pointer pb']) (0 + j * 6) [.int .i64 x,.int .i64 y,.pointer p,.int .i64 xb,.int .i64 yb,.pointer pb]) (swp dCP l i j):=by
 obtain ⟨-,-,-,g1,-⟩:=h.row.get (d:=dCP) hi (by decide)
 obtain ⟨-,-,-,g2,-⟩:=h.row.get (d:=dCP) hj (by decide)
 rw [Nat.zero_add,Nat.zero_add]
 refine ⟨g1,by rw [setVals_len (by exact g1)]; exact g2,h.row.swap hi hj (by decide) rfl rfl h1 h2,by rw [swp_len]; exact h.len,by rw [swp_len]; exact h.few⟩
/-- What a function that sorts or shuffles leaves behind. -/
def SPostP (lb n:Nat) (l:List (Rat × Rat)) (a b:Nat) (V':View) (Q:List (Rat × Rat)->Prop):Prop:=∃vs' l',V'.w.heap[lb]?=some (.cells vs'.toArray 145 (0,0))/\SRP V' n vs' l'/\Seg dCP l l' a b/\Q l'
theorem c_insertionSortP {V:View} {lb n c:Nat} {vs:List Value} {l:List (Rat × Rat)} (hw:V.w.heap[lb]?=some (.cells vs.toArray 145 (0,0))) (hx:V.X lb) (h:SRP V n vs l) {a b:Nat} (hab:a<=b) (hb:b<=l.length) :
  Acts prog 330 #[.slice (some ⟨lb,0,none⟩) n c,.int .i64 a,.int .i64 b,.func (.func 234) #[] #[]] V fun r V'=>r=.tuple #[]/\SPostP lb n l a b V' fun l'=>Asc cCP dCP l' a b:=by
 have few:=h.few
 have len:=h.len
 have wa:i64.wrap ((a:Int) + 1)=((a + 1:Nat):Int):=by rw [i64w (by omega)]; omega
 refine vc_slices_insertionSortCmpFunc_P lb n c vs a b V _ hw hx ⟨fun z V'=>∃(i:Nat) (m:List (Rat × Rat)),z.1=(i:Int)/\a < i/\(i<=b \/ i=a + 1)/\SRP V' n z.2 m/\Seg dCP l m a b/\Asc cCP dCP m a i,fun z=>(b - z.1).toNat,
  ⟨(_,vs),by and_intros <;> rfl,a + 1,l,wa,by omega,.inr rfl,h,.refl _ _ _,.short (by omega)⟩,?_⟩
 rintro ⟨z,us⟩ V1 l1 ⟨i,m,e,hai,hib,hs,hseg,hasc⟩
 dsimp only at e hs
 subst e
 dsimp only
 have ml:m.length=l.length:=hseg.len
 refine ⟨rfl,fun hlt=>?_,fun hlt V6 l6 hw6=>⟨rfl,us,m,hw6,hs.le l6,hseg,?_⟩⟩
 ·have hlt:(i:Int) < b:=of_decide_eq_true hlt
  have w2:i64.wrap ((i:Int) + 1)=((i + 1:Nat):Int):=by rw [i64w (by omega)]; omega
  rw [w2]
  refine ⟨fun z V'=>∃(j:Nat) (k:List (Rat × Rat)),z.1=(j:Int)/\a<=j/\j<=i/\SRP V' n z.2 k/\Seg dCP l k a b/\Ins cCP dCP k a i j,fun z=>z.1.toNat,⟨((i:Int),us),by and_intros <;> rfl,i,m,rfl,by omega,Nat.le_refl _,hs,hseg,.start hasc⟩,?_⟩
  rintro ⟨z,ws⟩ V2 l2 ⟨j,k,e,haj,hji,hs,hseg,hins⟩
  dsimp only at e hs
  subst e
  dsimp only
  have kl:k.length=l.length:=hseg.len
  refine ⟨rfl,fun z V'=>V2.Le V'/\(z=true->a < j/\cCP (k.getD j dCP) (k.getD (j - 1) dCP) < 0)/\(z=false->j<=a \/ ¬ cCP (k.getD j dCP) (k.getD (j - 1) dCP) < 0),⟨fun hj=>?_,fun hj=>?_⟩,?_⟩
  ·have hj:(j:Int) > a:=of_decide_eq_true hj
   have w1:i64.wrap ((j:Int) - 1)=((j - 1:Nat):Int):=by rw [i64w (by omega)]; omega
   rw [w1,Int.toNat_natCast,Int.toNat_natCast]
   obtain ⟨x1,y1,p1,xb1,yb1,pb1,g1,r1⟩:=hs.get (k:=j) (by omega)
   obtain ⟨x2,y2,p2,xb2,yb2,pb2,g2,r2⟩:=hs.get (k:=j - 1) (by omega)
   refine ⟨⟨by omega,by omega⟩,x1,y1,p1,xb1,yb1,pb1,g1,⟨by omega,by omega⟩,x2,y2,p2,xb2,yb2,pb2,g2,fun V3 l3=>(c_chg_cmpP (r1.le l3) (r2.le l3)).mono ?_⟩
   rintro r V4 l4 rfl
   exact ⟨_,rfl,_,by and_intros <;> rfl,l3.trans l4,fun h=>⟨by omega,of_decide_eq_true h⟩,fun h=>.inr (of_decide_eq_false h)⟩
  ·have hj:¬ (j:Int) > a:=of_decide_eq_false hj
   exact ⟨false,by and_intros <;> rfl,View.Le.refl _,(fun h=>nomatch h),fun _=>.inl (by omega)⟩
  ·rintro t V5 l5 ⟨lv,t1,t2⟩
   refine ⟨rfl,fun ht=>?_,fun ht=>⟨(((i + 1:Nat):Int),ws),by dsimp only; omega,by and_intros <;> rfl,i + 1,k,rfl,by omega,.inl (by omega),hs.le l5,hseg,hins.done ordCP hji (t2 ht)⟩⟩
   obtain ⟨hj,hlt2⟩:=t1 ht
   have w1:i64.wrap ((j:Int) - 1)=((j - 1:Nat):Int):=by rw [i64w (by omega)]; omega
   rw [w1,Int.toNat_natCast,Int.toNat_natCast]
   obtain ⟨x1,y1,p1,xb1,yb1,pb1,g1,r1⟩:=(hs.le l5).get (k:=j) (by omega)
   obtain ⟨x2,y2,p2,xb2,yb2,pb2,g2,r2⟩:=(hs.le l5).get (k:=j - 1) (by omega)
   obtain ⟨s1,s2,s3⟩:=(hs.le l5).swap (i:=j) (j:=j - 1) (by omega) (by omega) r1 r2
   exact ⟨⟨by omega,by omega⟩,x2,y2,p2,xb2,yb2,pb2,g2,⟨by omega,by omega⟩,x1,y1,p1,xb1,yb1,pb1,g1,⟨by omega,by omega⟩,s1,⟨by omega,by omega⟩,s2,(((j - 1:Nat):Int),_),by dsimp only; omega,by and_intros <;> rfl,j - 1,_,rfl,by omega,by omega,s3,
    hseg.trans (Seg.swp (by omega) (by omega) (by omega) (by omega) (by omega)),hins.move ordCP hj hji (by omega) hlt2⟩
 ·have hlt:¬ (i:Int) < b:=of_decide_eq_false hlt
  rcases hib with hib | hib
  ·rw [show b=i by omega]; exact hasc
  ·exact .short (by omega)
/-- Nothing to sort. -/
theorem c_SortFunc_nilP {V:View}:Acts prog 233 #[.slice none 0 0,.func (.func 234) #[] #[]] V fun r V'=>r=.tuple #[]:=by
 have ins:∀{W:View},Acts prog 330 #[.slice none 0 0,.int .i64 0,.int .i64 0,.func (.func 234) #[] #[]] W fun r V'=>r=.tuple #[]:=by
  intro W
  refine vc_slices_insertionSortCmpFunc_nil_P 0 0 W _ ⟨fun z _=>z=1,fun _=>0,⟨1,by and_intros <;> first | rfl | exact i64w (by omega),rfl⟩,?_⟩
  rintro z V1 l1 rfl
  exact ⟨rfl,fun h=>absurd (of_decide_eq_true h) (by omega),fun _ V2 l2=>rfl⟩
 refine vc_slices_SortFunc_nil_P V _ fun V1 l1=>(c_bits_Len 0 (by omega)).mono ?_
 rintro r V2 l2 rfl
 refine ⟨_,rfl,fun V3 l3=>?_⟩
 have pdq:Acts prog 282 #[.slice none 0 0,.int .i64 0,.int .i64 0,.int .i64 (blen 0:Int),.func (.func 234) #[] #[]] V3 fun r V'=>r=.tuple #[]:=by
  refine vc_slices_pdqsortCmpFunc_nil_P 0 0 _ V3 _ ⟨fun z _=>z.1=0/\z.2.1=0,fun _=>0,⟨(0,0,_,true,true),by and_intros <;> rfl,rfl,rfl⟩,?_⟩
  rintro ⟨z1,z2,z3,z4,z5⟩ V4 l4 ⟨e1,e2⟩
  dsimp only at e1 e2
  subst e1 e2
  dsimp only
  refine ⟨rfl,fun _ V5 l5=>ins.mono ?_,fun h=>absurd (of_decide_eq_false h) (by decide)⟩
  rintro r V6 l6 rfl
  exact ⟨rfl,fun V7 l7=>rfl⟩
 refine pdq.mono ?_
 rintro r V6 l6 rfl
 exact ⟨rfl,fun V7 l7=>rfl⟩
end Go.Proofs.Tryz
/- By program: the conditions of the functions, from their loaded code. -/
namespace Go.Proofs.Tryz
open Go.Eng
open Go.Value renaming int→I,pointer→P,slice→S,agg→A,bool→B,tuple→T
open Go.IntKind renaming i64→J,u64→U,u32→W
set_option maxRecDepth 100000
theorem vc_slices_CompactFunc_P (g d e:Nat) (f:List Value) (V:View) (R:VR) (hw100000:V.w.heap[g]?=some (.cells f.toArray 145 (0,0))) (hx100000:V.X g) (h:(((decide ((d:Int) < (2:Int)))=true->(∀r,V.Le r->r.w.heap[g]?=some (.cells f.toArray 145 (0,0))->R (S (some ⟨g,0,none⟩) d e) r))/\((decide ((d:Int) < (2:Int)))=false->(∃(s:Int->VP) (a1:Int->Nat),(∃a2:Int,(s3 0 d e (((236:FuncId)=236)/\((1:Int)=a2)/\(f=f)))/\s a2 V)/\∀(b:Int) (m:View),V.Le m->s b m->(true=true/\(((decide (b < (d:Int)))=true->(0<=b/\b < (d:Int))/\(∃a3,∃a4,∃a5,∃a6,∃a7,∃a8,((0 + (b.toNat * 6)) + 6<=f.length/\(f.drop (0 + (b.toNat * 6))).take 6=[I J a3,I J a4,P a5,I J a6,I J a7,P a8])/\(0<=(J.wrap (b - (1:Int)))/\(J.wrap (b - (1:Int))) < (d:Int))/\(∃a9,∃b0,∃b1,∃b2,∃b3,∃b4,((0 + (((J.wrap (b - (1:Int))).toNat) * 6)) + 6<=f.length/\(f.drop (0 + (((J.wrap (b - (1:Int))).toNat) * 6))).take 6=[I J a9,I J b0,P b1,I J b2,I J b3,P b4])/\(Ca m 236 #[A #[I J a3,I J a4,P a5,I J a6,I J a7,P a8],A #[I J a9,I J b0,P b1,I J b2,I J b3,P b4]] fun d4 t=>∃u,d4=B u/\((u=true->(0<=b/\b<=(d:Int))/\(∃(n:(Int × Int × (List Value))->VP) (o:(Int × Int × (List Value))->Nat),(∃p,(s3 0 d e (((236:FuncId)=236)/\((slO 0 e b.toNat 6:Nat)=slO 0 e b.toNat 6)/\((d - b.toNat:Nat)=d - b.toNat)/\((e - b.toNat:Nat)=e - b.toNat)/\(b=p.1)/\((1:Int)=p.2.1)/\(f=p.2.2)))/\n p t)/\∀(a:Int × Int × (List Value)) (q:View),t.Le q->n a q->(true=true/\(((decide (a.2.1 < ((d - b.toNat:Nat):Int)))=true->(0<=a.2.1/\a.2.1 < ((d - b.toNat:Nat):Int))/\(∃b5,∃b6,∃b7,∃b8,∃b9,∃c0,(((slO 0 e b.toNat 6) + (a.2.1.toNat * 6)) + 6<=a.2.2.length/\(a.2.2.drop ((slO 0 e b.toNat 6) + (a.2.1.toNat * 6))).take 6=[I J b5,I J b6,P b7,I J b8,I J b9,P c0])/\(0<=(J.wrap (a.2.1 - (1:Int)))/\(J.wrap (a.2.1 - (1:Int))) < ((d - b.toNat:Nat):Int))/\(∃c1,∃c2,∃c3,∃c4,∃c5,∃c6,(((slO 0 e b.toNat 6) + (((J.wrap (a.2.1 - (1:Int))).toNat) * 6)) + 6<=a.2.2.length/\(a.2.2.drop ((slO 0 e b.toNat 6) + (((J.wrap (a.2.1 - (1:Int))).toNat) * 6))).take 6=[I J c1,I J c2,P c3,I J c4,I J c5,P c6])/\(Ca q 236 #[A #[I J b5,I J b6,P b7,I J b8,I J b9,P c0],A #[I J c1,I J c2,P c3,I J c4,I J c5,P c6]] fun d5 c7=>∃x,d5=B x/\(((!x)=true->(0<=a.2.1/\a.2.1 < ((d - b.toNat:Nat):Int))/\(∃c8,∃c9,∃d0,∃d1,∃d2,∃d3,(((slO 0 e b.toNat 6) + (a.2.1.toNat * 6)) + 6<=a.2.2.length/\(a.2.2.drop ((slO 0 e b.toNat 6) + (a.2.1.toNat * 6))).take 6=[I J c8,I J c9,P d0,I J d1,I J d2,P d3])/\(0<=a.1/\a.1 < (d:Int))/\((0 + (a.1.toNat * 6)) + 6<=a.2.2.length)/\(∃k:Int × Int × (List Value),o k < o a/\(s3 0 d e (((236:FuncId)=236)/\((slO 0 e b.toNat 6:Nat)=slO 0 e b.toNat 6)/\((d - b.toNat:Nat)=d - b.toNat)/\((e - b.toNat:Nat)=e - b.toNat)/\((J.wrap (a.1 + (1:Int)))=k.1)/\((J.wrap (a.2.1 + (1:Int)))=k.2.1)/\((setVals a.2.2 (0 + (a.1.toNat * 6)) [I J c8,I J c9,P d0,I J d1,I J d2,P d3])=k.2.2)))/\n k c7)))/\((!x)=false->(∃l:Int × Int × (List Value),o l < o a/\(s3 0 d e (((236:FuncId)=236)/\((slO 0 e b.toNat 6:Nat)=slO 0 e b.toNat 6)/\((d - b.toNat:Nat)=d - b.toNat)/\((e - b.toNat:Nat)=e - b.toNat)/\(a.1=l.1)/\((J.wrap (a.2.1 + (1:Int)))=l.2.1)/\(a.2.2=l.2.2)))/\n l c7)))))))/\((decide (a.2.1 < ((d - b.toNat:Nat):Int)))=false->(0<=a.1/\a.1<=(d:Int))/\((slO 0 e a.1.toNat 6) + ((d - a.1.toNat) * 6)<=a.2.2.length)/\(0<=a.1/\a.1<=(e:Int))/\(∀y,q.Le y->y.w.heap[g]?=some (.cells (a.2.2.take (slO 0 e a.1.toNat 6)++zrow (d - a.1.toNat) [I J 0,I J 0,P none,I J 0,I J 0,P none]++a.2.2.drop ((slO 0 e a.1.toNat 6) + ((d - a.1.toNat) * 6))).toArray 145 (0,0))->R (S (some ⟨g,0,none⟩) a.1.toNat e) y))))))/\(u=false->(∃z:Int,a1 z < a1 b/\(s3 0 d e (((236:FuncId)=236)/\((J.wrap (b + (1:Int)))=z)/\(f=f)))/\s z t)))))))/\((decide (b < (d:Int)))=false->(∀a0,m.Le a0->a0.w.heap[g]?=some (.cells f.toArray 145 (0,0))->R (S (some ⟨g,0,none⟩) d e) a0)))))))):
 Acts prog 235 #[S (some ⟨g,0,none⟩) d e,.func (.func 236) #[] #[]] V R:=
 fn_does (LF:=LF0) (RF:=[1000015]) (β0:=(upd1 (fun _=>0) 100000 g)) tab_ok mixed [(4,⟨Int,false,[0,1],[100000],fun i=>[(5,.c (.v (I J i)))],fun i=>[]⟩),(9,⟨Int × Int × (List Value),false,[0,1,6],[],fun i=>[(5,.c (.v (I J i.1))),(7,.c (.v (I J i.2.1)))],fun i=>[(100000,⟨.row i.2.2,145⟩)]⟩)] [] func235 (by kernel_rfl) [(0,.c (.slc 100000 0 d e)),(1,.c (.clo 236 []))] [(100000,⟨.row f,145⟩)] (by kernel_rfl) ⟨⟨hw100000,hx100000⟩,trivial,trivial⟩ h (by kernel_rfl)
theorem vc_slices_CompactFunc_nil_P (V:View) (R:VR) (h:(((decide ((0:Int) < (2:Int)))=true->(Rt V R (S none 0 0)))/\((decide ((0:Int) < (2:Int)))=false->(∃(p:Int->VP) (y:Int->Nat),(∃z:Int,(s3 (none:OA) 0 0 (((236:FuncId)=236)/\((1:Int)=z)))/\p z V)/\∀(a:Int) (d:View),V.Le d->p a d->(true=true/\(((decide (a < (0:Int)))=true->((none:OA).isSome=true)/\(0<=a/\a < (0:Int))/\(∃a0,∃a1,∃a2,∃a3,∃a4,∃a5,∃f,addrAdd none (a.toNat * 6)=some f/\d.at (f.add 0) (I J a0)/\d.at (f.add 1) (I J a1)/\d.at (f.add 2) (P a2)/\d.at (f.add 3) (I J a3)/\d.at (f.add 4) (I J a4)/\d.at (f.add 5) (P a5)/\((none:OA).isSome=true)/\(0<=(J.wrap (a - (1:Int)))/\(J.wrap (a - (1:Int))) < (0:Int))/\(∃a6,∃a7,∃a8,∃a9,∃b0,∃b1,∃g,addrAdd none (((J.wrap (a - (1:Int))).toNat) * 6)=some g/\d.at (g.add 0) (I J a6)/\d.at (g.add 1) (I J a7)/\d.at (g.add 2) (P a8)/\d.at (g.add 3) (I J a9)/\d.at (g.add 4) (I J b0)/\d.at (g.add 5) (P b1)/\(Ca d 236 #[A #[I J a0,I J a1,P a2,I J a3,I J a4,P a5],A #[I J a6,I J a7,P a8,I J a9,I J b0,P b1]] fun c6 q=>∃r,c6=B r/\((r=true->(0<=a/\a<=(0:Int))/\(∃(s:(Int × Int)->VP) (b2:(Int × Int)->Nat),(∃t,(s3 (none:OA) 0 0 (((236:FuncId)=236)/\((slA none 0 a.toNat 6:OA)=(slA none 0 a.toNat 6))/\((0 - a.toNat:Nat)=(0 - a.toNat))/\((0 - a.toNat:Nat)=(0 - a.toNat))/\(a=t.1)/\((1:Int)=t.2)))/\s t q)/\∀(b:Int × Int) (e:View),q.Le e->s b e->(true=true/\(((decide (b.2 < ((0 - a.toNat:Nat):Int)))=true->((slA none 0 a.toNat 6).isSome=true)/\(0<=b.2/\b.2 < ((0 - a.toNat:Nat):Int))/\(∃b3,∃b4,∃b5,∃b6,∃b7,∃b8,∃i,addrAdd (slA none 0 a.toNat 6) (b.2.toNat * 6)=some i/\e.at (i.add 0) (I J b3)/\e.at (i.add 1) (I J b4)/\e.at (i.add 2) (P b5)/\e.at (i.add 3) (I J b6)/\e.at (i.add 4) (I J b7)/\e.at (i.add 5) (P b8)/\((slA none 0 a.toNat 6).isSome=true)/\(0<=(J.wrap (b.2 - (1:Int)))/\(J.wrap (b.2 - (1:Int))) < ((0 - a.toNat:Nat):Int))/\(∃b9,∃c0,∃c1,∃c2,∃c3,∃c4,∃k,addrAdd (slA none 0 a.toNat 6) (((J.wrap (b.2 - (1:Int))).toNat) * 6)=some k/\e.at (k.add 0) (I J b9)/\e.at (k.add 1) (I J c0)/\e.at (k.add 2) (P c1)/\e.at (k.add 3) (I J c2)/\e.at (k.add 4) (I J c3)/\e.at (k.add 5) (P c4)/\(Ca e 236 #[A #[I J b3,I J b4,P b5,I J b6,I J b7,P b8],A #[I J b9,I J c0,P c1,I J c2,I J c3,P c4]] fun c7 l=>∃u,c7=B u/\(((!u)=true->((slA none 0 a.toNat 6).isSome=true)/\(0<=b.2/\b.2 < ((0 - a.toNat:Nat):Int))/\(∃c8,∃c9,∃d0,∃d1,∃d2,∃d3,∃m,addrAdd (slA none 0 a.toNat 6) (b.2.toNat * 6)=some m/\l.at (m.add 0) (I J c8)/\l.at (m.add 1) (I J c9)/\l.at (m.add 2) (P d0)/\l.at (m.add 3) (I J d1)/\l.at (m.add 4) (I J d2)/\l.at (m.add 5) (P d3)/\((none:OA).isSome=true)/\(0<=b.1/\b.1 < (0:Int))/\False))/\((!u)=false->(∃o:Int × Int,b2 o < b2 b/\(s3 (none:OA) 0 0 (((236:FuncId)=236)/\((slA none 0 a.toNat 6:OA)=(slA none 0 a.toNat 6))/\((0 - a.toNat:Nat)=(0 - a.toNat))/\((0 - a.toNat:Nat)=(0 - a.toNat))/\(b.1=o.1)/\((J.wrap (b.2 + (1:Int)))=o.2)))/\s o l)))))))/\((decide (b.2 < ((0 - a.toNat:Nat):Int)))=false->(0<=b.1/\b.1<=(0:Int))/\False)))))/\(r=false->(∃w:Int,y w < y a/\(s3 (none:OA) 0 0 (((236:FuncId)=236)/\((J.wrap (a + (1:Int)))=w)))/\p w q)))))))/\((decide (a < (0:Int)))=false->(Rt d R (S none 0 0))))))))):
 Acts prog 235 #[S none 0 0,.func (.func 236) #[] #[]] V R:=
 fn_does (LF:=LF0) (RF:=[1000015]) (β0:=(fun _=>0)) tab_ok mixed [(4,⟨Int,false,[0,1],[],fun n=>[(5,.c (.v (I J n)))],fun n=>[]⟩),(9,⟨Int × Int,false,[0,1,6],[],fun n=>[(5,.c (.v (I J n.1))),(7,.c (.v (I J n.2)))],fun n=>[]⟩)] [] func235 (by kernel_rfl) [(0,.c (.v (S none 0 0))),(1,.c (.clo 236 []))] [] (by kernel_rfl) trivial h (by kernel_rfl)
end Go.Proofs.Tryz
/- slices.CompactFunc of bspregion/geo.Pt (by mksort.py). -/
namespace Go.Proofs.Tryz
open Go.Eng Go.Big
set_option maxHeartbeats 1000000 in
theorem c_CompactFuncP {V:View} {lb n c:Nat} {vs:List Value} {l:List (Rat × Rat)} (hw:V.w.heap[lb]?=some (.cells vs.toArray 145 (0,0))) (hx:V.X lb) (h:SRP V n vs l) (hc:n<=c) :
  Acts prog 235 #[.slice (some ⟨lb,0,none⟩) n c,.func (.func 236) #[] #[]] V fun r V'=>∃vs',r=.slice (some ⟨lb,0,none⟩) (cmpt eP l).length c/\V'.w.heap[lb]?=some (.cells vs'.toArray 145 (0,0))/\Row 6 RCP V' vs' (cmpt eP l)/\vs'.length=vs.length:=by
 have few:=h.few
 have len:=h.len
 have hvl:=h.row.len_le (by decide)
 refine vc_slices_CompactFunc_P lb n c vs V _ hw hx ⟨fun h2 V1 l1 hw1=>?_,fun h2=>⟨fun z V'=>∃k:Nat,z=((k + 1:Nat):Int)/\k + 1<=n/\cmpt eP (l.take (k + 1))=l.take (k + 1),fun z=>n - z.toNat,⟨1,by and_intros <;> rfl,0,rfl,by have:=of_decide_eq_false h2; omega,cmpt_one (by rw [List.length_take]; omega)⟩,?_⟩⟩
 ·have h2:(n:Int) < 2:=of_decide_eq_true h2
  have e:=cmpt_one (e:=eP) (l:=l) (by omega)
  rw [e,← len]
  exact ⟨vs,rfl,hw1,h.row.le fun _ _ g=>RCP.le g l1,rfl⟩
 have h2:¬ (n:Int) < 2:=of_decide_eq_false h2
 rintro z V2 l2 ⟨k,rfl,hk,hcm⟩
 have hs2:=h.le l2
 refine ⟨rfl,fun hlt=>?_,fun hlt V9 l9 hw9=>?_⟩
 rotate_left
 ·have hlt:¬ ((k + 1:Nat):Int) < n:=of_decide_eq_false hlt
  have e:l.take (k + 1)=l:=List.take_of_length_le (by omega)
  rw [e] at hcm
  rw [hcm,← len]
  exact ⟨vs,rfl,hw9,h.row.le fun _ _ g=>RCP.le g (l2.trans l9),rfl⟩
 have hlt:((k + 1:Nat):Int) < n:=of_decide_eq_true hlt
 have w1:i64.wrap (((k + 1:Nat):Int) - 1)=(k:Int):=by rw [i64w (by omega)]; omega
 have w2:i64.wrap (((k + 1:Nat):Int) + 1)=((k + 1 + 1:Nat):Int):=by rw [i64w (by omega)]; rfl
 rw [w1,w2,Int.toNat_natCast,Int.toNat_natCast]
 obtain ⟨x1,y1,p1,xb1,yb1,pb1,g1,r1⟩:=hs2.get (k:=k + 1) (by omega)
 obtain ⟨x2,y2,p2,xb2,yb2,pb2,g2,r2⟩:=hs2.get (k:=k) (by omega)
 refine ⟨⟨by omega,hlt⟩,x1,y1,p1,xb1,yb1,pb1,g1,⟨by omega,by omega⟩,x2,y2,p2,xb2,yb2,pb2,g2,fun V3 l3=>(c_eqvP (r1.le l3) (r2.le l3)).mono ?_⟩
 rintro r V4 l4 rfl
 have step:=cmpt_take (e:=eP) (d:=dCP) (l:=l) (k:=k) (by omega)
 refine ⟨_,rfl,fun he=>⟨⟨by omega,by omega⟩,?_⟩,fun he=>⟨((k + 1 + 1:Nat):Int),by dsimp only; omega,by and_intros <;> rfl,k + 1,rfl,by omega,?_⟩⟩
 rotate_left
 ·have he':eP (l.getD (k + 1) dCP) (l.getD k dCP)=false:=he
  rw [step,hcm,he']
  show l.take (k + 1)++[_]=_
  have hi:k + 1 < l.length:=by omega
  rw [show l.getD (k + 1) dCP=l[k + 1] by rw [List.getD_eq_getElem?_getD,List.getElem?_eq_getElem hi]; rfl,List.take_append_getElem hi]
 have he':eP (l.getD (k + 1) dCP) (l.getD k dCP)=true:=he
 have l24:=l3.trans l4
 have so:∀{m:Nat},m < c->slO 0 c m 6=m * 6:=fun hm=>by unfold slO; rw [if_neg (by omega),Nat.zero_add]
 refine ⟨fun z V'=>∃(q t:Nat) (m:List (Rat × Rat)),z.1=(q:Int)/\z.2.1=((t + 1:Nat):Int)/\q<=k + 1 + t/\k + 1 + t + 1<=n/\SRP V' n z.2.2 m/\z.2.2.length=vs.length/\(∀i,k + 1 + t<=i->m.getD i dCP=l.getD i dCP)/\m.take q=cmpt eP (l.take (k + 1 + t + 1)),fun z=>n - z.2.1.toNat,
  ⟨(((k + 1:Nat):Int),1,vs),by and_intros <;> rfl,k + 1,0,l,rfl,rfl,by omega,by omega,h.le (l2.trans l24),rfl,fun i _=>rfl,?_⟩,?_⟩
 ·rw [Nat.add_zero,step,he',if_pos rfl,List.append_nil,hcm]
 rintro ⟨zq,zt,us⟩ V5 l5 ⟨q,t,m,e1,e2,hq,ht,hs,hul,hm,hmq⟩
 dsimp only at e1 e2 hs hul
 subst e1 e2
 dsimp only
 have ml:=hs.len
 have mvl:=hs.row.len_le (by decide)
 refine ⟨rfl,fun hlt2=>?_,fun hlt2=>?_⟩
 ·have hlt2:((t + 1:Nat):Int) < ((n - (k + 1):Nat):Int):=of_decide_eq_true hlt2
  have w3:i64.wrap (((t + 1:Nat):Int) - 1)=(t:Int):=by rw [i64w (by omega)]; omega
  have w4:i64.wrap (((t + 1:Nat):Int) + 1)=((t + 1 + 1:Nat):Int):=by rw [i64w (by omega)]; rfl
  have w5:i64.wrap ((q:Int) + 1)=((q + 1:Nat):Int):=by rw [i64w (by omega)]; rfl
  rw [w3,w4,w5,Int.toNat_natCast,Int.toNat_natCast,Int.toNat_natCast,so (by omega)]
  obtain ⟨x1,y1,p1,xb1,yb1,pb1,g1,r1⟩:=hs.get (k:=k + 1 + (t + 1)) (by omega)
  obtain ⟨x2,y2,p2,xb2,yb2,pb2,g2,r2⟩:=hs.get (k:=k + 1 + t) (by omega)
  have a1:(k + 1) * 6 + (t + 1) * 6=0 + (k + 1 + (t + 1)) * 6:=by omega
  have a2:(k + 1) * 6 + t * 6=0 + (k + 1 + t) * 6:=by omega
  rw [a1,a2]
  rw [hm _ (by omega)] at r1
  rw [hm _ (by omega)] at r2
  refine ⟨⟨by omega,hlt2⟩,x1,y1,p1,xb1,yb1,pb1,g1,⟨by omega,by omega⟩,x2,y2,p2,xb2,yb2,pb2,g2,fun V6 l6=>(c_eqvP (r1.le l6) (r2.le l6)).mono ?_⟩
  rintro r V7 l7 rfl
  have l57:=l6.trans l7
  have step2:=cmpt_take (e:=eP) (d:=dCP) (l:=l) (k:=k + 1 + t) (by omega)
  refine ⟨_,rfl,fun hn=>⟨⟨by omega,hlt2⟩,x1,y1,p1,xb1,yb1,pb1,g1,⟨by omega,by omega⟩,by omega,(((q + 1:Nat):Int),((t + 1 + 1:Nat):Int),_),by dsimp only; omega,by and_intros <;> rfl,q + 1,t + 1,m.set q (l.getD (k + 1 + (t + 1)) dCP),rfl,rfl,by omega,by omega,?_,?_,fun i hi=>?_,?_⟩,fun hn=>⟨(((q:Nat):Int),((t + 1 + 1:Nat):Int),us),by dsimp only; omega,by and_intros <;> rfl,q,t + 1,m,rfl,rfl,by omega,by omega,hs.le l57,hul,fun i hi=>hm i (by omega),?_⟩⟩
  ·refine ⟨?_,by rw [List.length_set]; exact ml,by rw [List.length_set]; exact hs.few⟩
   have:=(hs.le l57).row.put (i:=q) (by omega) (by decide) (xs:=[.int .i64 x1,.int .i64 y1,.pointer p1,.int .i64 xb1,.int .i64 yb1,.pointer pb1]) rfl (r1.le l57)
   dsimp only
   rw [Nat.zero_add]
   exact this
  ·exact (setVals_len (vs:=us) (xs:=[.int .i64 x1,.int .i64 y1,.pointer p1,.int .i64 xb1,.int .i64 yb1,.pointer pb1]) (o:=0 + q * 6) (by show 0 + q * 6 + 6<=_; omega)).trans hul
  ·rw [List.getD_eq_getElem?_getD,List.getElem?_set_ne (by omega),← List.getD_eq_getElem?_getD]
   exact hm i (by omega)
  ·have hn1:eP (l.getD (k + 1 + (t + 1)) dCP) (l.getD (k + 1 + t) dCP)=false:=by simpa using hn
   have hn':eP (l.getD (k + 1 + t + 1) dCP) (l.getD (k + 1 + t) dCP)=false:=hn1
   have hi:q < m.length:=by omega
   rw [show k + 1 + (t + 1) + 1=k + 1 + t + 2 from rfl,step2,hn',← hmq,if_neg (by decide)]
   rw [List.take_set,List.take_add_one,List.getElem?_eq_getElem hi,show (some m[q]).toList=[m[q]] from rfl]
   rw [List.set_append_right _ _ (by rw [List.length_take]; omega),List.length_take,Nat.min_eq_left (by omega),Nat.sub_self]
   rfl
  ·have hn1:eP (l.getD (k + 1 + (t + 1)) dCP) (l.getD (k + 1 + t) dCP)=true:=by simpa using hn
   have hn':eP (l.getD (k + 1 + t + 1) dCP) (l.getD (k + 1 + t) dCP)=true:=hn1
   rw [show k + 1 + (t + 1) + 1=k + 1 + t + 2 from rfl,step2,hn',if_pos rfl,List.append_nil,hmq]
 ·have hlt2:¬ ((t + 1:Nat):Int) < ((n - (k + 1):Nat):Int):=of_decide_eq_false hlt2
  have hl:l.take (k + 1 + t + 1)=l:=List.take_of_length_le (by omega)
  rw [hl] at hmq
  have hql:q < n:=by
   have:=cptF_lt (e:=eP) (d:=dCP) (l:=l) (k:=k) (by omega) he'
   rw [← hmq,List.length_take] at this
   omega
  rw [Int.toNat_natCast,so (by omega)]
  have hz:q * 6 + (n - q) * 6=n * 6:=by rw [← Nat.add_mul]; congr 1; omega
  rw [hz]
  refine ⟨⟨by omega,by omega⟩,by omega,⟨by omega,by omega⟩,fun V8 l8 hw8=>⟨_,?_,hw8,?_,?_⟩⟩
  ·rw [← hmq,List.length_take,Nat.min_eq_left (by omega)]
  ·rw [← hmq,List.append_assoc]
   exact (hs.row.le fun _ _ g=>RCP.le g l8).cleared (by omega) (by decide)
  ·simp only [List.length_append,List.length_take,List.length_drop,zrow_eq,List.length_flatten,List.map_replicate,List.sum_replicate_nat,List.length_cons,List.length_nil]
   omega
theorem c_CompactFunc_nilP {V:View}:Acts prog 235 #[.slice none 0 0,.func (.func 236) #[] #[]] V fun r V'=>r=.slice none 0 0:=
 vc_slices_CompactFunc_nil_P V _ ⟨fun _ V1 l1=>rfl,fun h=>absurd (of_decide_eq_false h) (by decide)⟩
end Go.Proofs.Tryz
/- Sorting of directions, as a fact about a list; of at most twelve: by insertion alone. -/
namespace Go.Proofs.Tryz
open Go.Eng Go.Big
/-- slices.SortFunc sorts this list. -/
def SortsP (n c:Nat) (l:List (Rat × Rat)):Prop:=∀(V:View) (lb:Nat) (vs:List Value),V.w.heap[lb]?=some (.cells vs.toArray 145 (0,0))->V.X lb->SRP V n vs l ->
 Acts prog 233 #[.slice (some ⟨lb,0,none⟩) n c,.func (.func 234) #[] #[]] V fun r V'=>r=.tuple #[]/\∃vs' l',V'.w.heap[lb]?=some (.cells vs'.toArray 145 (0,0))/\SRP V' n vs' l'/\l'.Perm l/\l'.Pairwise fun x y=>¬ cCP y x < 0
theorem sortsS (n c:Nat) (l:List (Rat × Rat)) (h12:l.length<=12):SortsP n c l:=by
 intro V lb vs hw hx h
 have few:=h.few
 have len:=h.len
 have w:u64.wrap (n:Int)=n:=u64w (by omega)
 refine vc_slices_SortFunc_P lb n c vs V _ hw hx ?_
 rw [w]
 refine fun V1 l1=>(c_bits_Len n (by omega)).mono ?_
 rintro r V2 l2 rfl
 have pdq:∀{W:View} {bk:Nat},W.w.heap[bk]?=some (.cells vs.toArray 145 (0,0))->W.X bk->SRP W n vs l->Acts prog 282 #[.slice (some ⟨bk,0,none⟩) n c,.int .i64 0,.int .i64 (n:Int),.int .i64 (blen n:Int),.func (.func 234) #[] #[]] W fun r V'=>r=.tuple #[]/\SPostP bk n l 0 n V' fun l'=>Asc cCP dCP l' 0 n:=by
  intro W bk hw hx h
  refine vc_slices_pdqsortCmpFunc_P bk n c vs 0 n (blen n:Int) W _ hw hx ⟨fun z V'=>z.1=0/\z.2.1=(n:Int)/\SRP V' n z.2.2.2.2.2 l,fun _=>0,⟨(0,(n:Int),(blen n:Int),true,true,vs),by and_intros <;> rfl,rfl,rfl,h⟩,?_⟩
  rintro ⟨z1,z2,lim,wb,wp,us⟩ V1 l1 ⟨e1,e2,hs⟩
  dsimp only at e1 e2 hs
  subst e1 e2
  dsimp only
  have w0:i64.wrap ((n:Int) - 0)=(n:Int):=by rw [i64w (by omega)]; omega
  rw [w0]
  refine ⟨rfl,fun _ V2 l2 bk e2 h2=>(c_insertionSortP (V:=V2.lend [bk]) e2 ⟨by simp,h2⟩ (hs.le l2) (a:=0) (b:=n) (by omega) (by omega)).mono ?_,fun h12=>by have:=of_decide_eq_false h12; omega⟩
  rintro r V3 l3 ⟨rfl,ws,m',e3,hs3,sg3,as3⟩
  exact ⟨rfl,ws,e3,fun V4 l4 hw4=>⟨rfl,ws,m',hw4,hs3.le fun b o h=>l4 b o h,sg3,as3⟩⟩
 refine ⟨_,rfl,fun V3 l3 bk e3 h3=>(pdq (W:=V3.lend [bk]) e3 ⟨by simp,h3⟩ (h.le fun b o h=>l3 b o (l2 b o (l1 b o h)))).mono ?_⟩
 rintro r V4 l4 ⟨rfl,vs',l',e4,hs4,sg,asc⟩
 refine ⟨rfl,vs',e4,fun V5 l5 hw5=>⟨rfl,vs',l',hw5,hs4.le fun b o h=>l5 b o h,sg.perm,?_⟩⟩
 have sl:=sg.len
 refine List.pairwise_iff_getElem.2 fun i j hi hj hij=>?_
 have:=asc i j (by omega) hij (by omega)
 rw [List.getD_eq_getElem?_getD,List.getD_eq_getElem?_getD,List.getElem?_eq_getElem hi,List.getElem?_eq_getElem hj] at this
 simp only [Option.getD_some] at this
 exact this
end Go.Proofs.Tryz
/- Rows: an element put into a row, rows joined; the cells of a list in memory. -/
namespace Go.Proofs.Tryz
open Go.Eng Go.Big
theorem row_one {α:Type} {sz:Nat} {R:View->Value->α->Prop} {V:View} {xs:List Value} {a:α} (hx:xs.length=sz) (ha:R V (.agg xs.toArray) a):Row sz R V xs [a]:=by
 refine ⟨fun i hi=>?_⟩
 obtain rfl:i=0:=by simpa using hi
 exact ⟨xs,hx,ha,fun j x hj=>by rw [Nat.zero_mul,Nat.zero_add]; exact hj⟩
theorem row_insert {α:Type} {sz:Nat} {R:View->Value->α->Prop} {V:View} {vs:List Value} {ls:List α} (h:Row sz R V vs ls) {k:Nat} (hk:k<=ls.length) {xs sp:List Value} {a:α} (hx:xs.length=sz) (ha:R V (.agg xs.toArray) a) (hs:0 < sz) :
  Row sz R V (vs.take (k * sz)++(xs++(vs.take (ls.length * sz)).drop (k * sz))++sp) (ls.take k++a :: ls.drop k):=by
 have hl:=h.len_le hs
 have hks:k * sz<=ls.length * sz:=Nat.mul_le_mul_right _ hk
 have t1:(vs.take (k * sz)).length=k * sz:=by rw [List.length_take]; omega
 have t2:((vs.take (ls.length * sz)).drop (k * sz)).length=ls.length * sz - k * sz:=by rw [List.length_drop,List.length_take]; omega
 have a1:(ls.take k).length=k:=by rw [List.length_take]; omega
 refine ⟨fun i hi=>?_⟩
 rw [List.append_assoc]
 by_cases c1:i < k
 ·have hi':i < ls.length:=by omega
  obtain ⟨ys,y1,y2,y3⟩:=h.at_ i hi'
  have e:(ls.take k++a :: ls.drop k)[i]=ls[i]:=by rw [List.getElem_append_left (by omega),List.getElem_take]
  refine ⟨ys,y1,by rw [e]; exact y2,fun j x hj=>?_⟩
  have hj':=(List.getElem?_eq_some_iff.1 hj).1
  have hlt:i * sz + j < k * sz:=by
   have:(i + 1) * sz<=k * sz:=Nat.mul_le_mul_right _ c1
   rw [Nat.succ_mul] at this
   omega
  rw [List.getElem?_append_left (by omega),List.getElem?_take,if_pos hlt]
  exact y3 j x hj
 ·by_cases c2:i=k
  ·subst c2
   have e:(ls.take i++a :: ls.drop i)[i]=a:=by
    rw [List.getElem_append_right (by omega)]
    simp [a1]
   refine ⟨xs,hx,by rw [e]; exact ha,fun j x hj=>?_⟩
   have hj':=(List.getElem?_eq_some_iff.1 hj).1
   rw [List.getElem?_append_right (by omega),t1,Nat.add_sub_cancel_left,List.append_assoc,List.getElem?_append_left hj']
   exact hj
  ·have hi':i - 1 < ls.length:=by
    rw [List.length_append,a1,List.length_cons,List.length_drop] at hi
    omega
   obtain ⟨ys,y1,y2,y3⟩:=h.at_ (i - 1) hi'
   have e:(ls.take k++a :: ls.drop k)[i]=ls[i - 1]:=by
    rw [List.getElem_append_right (by omega)]
    obtain ⟨m,hm⟩:∃m,i=k + (m + 1):=⟨i - k - 1,by omega⟩
    subst hm
    simp only [a1,Nat.add_sub_cancel_left,List.getElem_cons_succ,List.getElem_drop]
    congr 1
   refine ⟨ys,y1,by rw [e]; exact y2,fun j x hj=>?_⟩
   have hj':=(List.getElem?_eq_some_iff.1 hj).1
   obtain ⟨m,hm⟩:∃m,i=k + 1 + m:=⟨i - k - 1,by omega⟩
   subst hm
   have e1:(k + 1 + m) * sz=k * sz + sz + m * sz:=by rw [Nat.add_mul,Nat.add_mul,Nat.one_mul]
   have e2:(k + 1 + m - 1) * sz=k * sz + m * sz:=by rw [show k + 1 + m - 1=k + m by omega,Nat.add_mul]
   have:=y3 j x hj
   rw [e2] at this
   have hlt:k * sz + m * sz + j < ls.length * sz:=by
    have:(k + m + 1) * sz<=ls.length * sz:=Nat.mul_le_mul_right _ (by omega)
    rw [Nat.add_mul,Nat.add_mul,Nat.one_mul] at this
    omega
   rw [List.getElem?_append_right (by omega),t1,List.append_assoc,List.getElem?_append_right (by omega),hx,List.getElem?_append_left (by omega),List.getElem?_drop,List.getElem?_take,if_pos (by omega)]
   rw [show k * sz + ((k + 1 + m) * sz + j - k * sz - sz)=k * sz + m * sz + j by omega]
   exact this
theorem lst_cells {α:Type} {sz:Nat} {R:View->Value->α->Prop} {V:View} {p:OA} {n:Nat} {ls:List α} (h:Lst sz R V p n ls) (hs:0 < sz):∃xs:List Value,V.sl p xs/\xs.length=ls.length * sz/\Row sz R V xs ls:=by
 have step:∀k,k<=ls.length->∃xs:List Value,V.sl p xs/\xs.length=k * sz/\Row sz R V xs (ls.take k):=by
  intro k
  induction k with
  | zero=>exact fun _=>⟨[],fun i v hv=>by simp at hv,by simp,by rw [List.take_zero]; exact Row.nil⟩
  | succ k ih=>
   intro hk
   obtain ⟨xs,x1,x2,x3⟩:=ih (by omega)
   obtain ⟨ad,ha,ys,y1,y2,y3⟩:=h.at_ k (by omega)
   have hl:(ls.take k).length=k:=by rw [List.length_take]; omega
   refine ⟨xs++ys,fun i v hv=>?_,by rw [List.length_append,x2,y1,Nat.succ_mul],?_⟩
   ·by_cases c:i < xs.length
    ·rw [List.getElem?_append_left c] at hv; exact x1 i v hv
    ·rw [List.getElem?_append_right (by omega)] at hv
     cases p with
     | none=>cases ha
     | some a=>
      obtain rfl:=Option.some.inj (show some (a.add (k * sz))=some ad from ha)
      have:=y3 _ v hv
      rw [adr_add2,x2] at this
      rw [show k * sz + (i - k * sz)=i by omega] at this
      exact ⟨a,rfl,this⟩
   ·have:=x3.snoc (sp:=[]) y1 y2 hs
    rw [hl,List.append_nil,List.take_of_length_le (by omega)] at this
    rw [List.take_add_one,List.getElem?_eq_getElem (by omega)]
    exact this
 obtain ⟨xs,x1,x2,x3⟩:=step ls.length (Nat.le_refl _)
 rw [List.take_length] at x3
 exact ⟨xs,x1,x2,x3⟩
theorem row_append {α:Type} {sz:Nat} {R:View->Value->α->Prop} {V:View} {vs xs sp:List Value} {ls ms:List α} (h:Row sz R V vs ls) (h':Row sz R V xs ms) (hs:0 < sz):Row sz R V (vs.take (ls.length * sz)++xs++sp) (ls++ms):=by
 have hl:=h.len_le hs
 have hl':=h'.len_le hs
 have ht:(vs.take (ls.length * sz)).length=ls.length * sz:=by rw [List.length_take]; omega
 refine ⟨fun i hi=>?_⟩
 by_cases c:i < ls.length
 ·obtain ⟨ys,y1,y2,y3⟩:=h.at_ i c
  refine ⟨ys,y1,by rw [List.getElem_append_left c]; exact y2,fun j x hj=>?_⟩
  have hj':=(List.getElem?_eq_some_iff.1 hj).1
  have hlt:i * sz + j < ls.length * sz:=by
   have:(i + 1) * sz<=ls.length * sz:=Nat.mul_le_mul_right _ c
   rw [Nat.succ_mul] at this
   omega
  rw [List.append_assoc,List.getElem?_append_left (by omega),List.getElem?_take,if_pos hlt]
  exact y3 j x hj
 ·rw [List.length_append] at hi
  obtain ⟨m,rfl⟩:∃m,i=ls.length + m:=⟨i - ls.length,by omega⟩
  have hm:m < ms.length:=by omega
  obtain ⟨ys,y1,y2,y3⟩:=h'.at_ m hm
  refine ⟨ys,y1,?_,fun j x hj=>?_⟩
  ·have e:(ls++ms)[ls.length + m]=ms[m]:=by rw [List.getElem_append_right (by omega)]; simp
   rw [e]; exact y2
  ·have hj':=(List.getElem?_eq_some_iff.1 hj).1
   have hlt:m * sz + j < xs.length:=by
    have:(m + 1) * sz<=ms.length * sz:=Nat.mul_le_mul_right _ hm
    rw [Nat.succ_mul] at this
    omega
   rw [List.append_assoc,List.getElem?_append_right (by rw [ht,Nat.add_mul]; omega),ht,Nat.add_mul,List.getElem?_append_left (by omega)]
   rw [show ls.length * sz + m * sz + j - ls.length * sz=m * sz + j by omega]
   exact y3 j x hj
/-- Every cell of a row is one cell. -/
theorem row_one_cell {α:Type} {sz:Nat} {R:View->Value->α->Prop} {V:View} {vs:List Value} {al:List α} (h:Row sz R V vs al) (hs:0 < sz) (hc:∀xs a,R V (.agg (List.toArray xs)) a->∀v ∈ xs,v.oneCell'=true) {m:Nat} (hm:m < al.length * sz) {v:Value} (hv:vs[m]?=some v):v.oneCell'=true:=by
 have hi:m / sz < al.length:=Nat.div_lt_of_lt_mul (by rw [Nat.mul_comm]; exact hm)
 obtain ⟨xs,hl,hx,hat⟩:=h.at_ (m / sz) hi
 have hlt:m % sz < xs.length:=by rw [hl]; exact Nat.mod_lt _ hs
 have e3:m=m / sz * sz + m % sz:=by rw [Nat.mul_comm]; exact (Nat.div_add_mod m sz).symm
 have:=hat (m % sz) _ (List.getElem?_eq_getElem hlt)
 rw [← e3,hv] at this
 obtain rfl:=Option.some.inj this
 exact hc xs _ hx _ (List.getElem_mem hlt)
end Go.Proofs.Tryz
/- Contracts: Directions, Sectors, Classes (package geo); Toward, Class (package bsp). -/
namespace Go.Proofs.Tryz
open Go.Eng Go.Big
theorem c_Directions {V:View} {lb n c:Nat} {vs:List Value} {o:List (Rat × Rat)} (hw:vs≠[]->V.w.heap[lb]?=some (.cells vs.toArray 145 (0,0))) (hx:vs≠[]->V.X lb) (hg:GR 6 RCP V n c vs o) (hpos:vs≠[]->0 < n) (hs:o.length < 50) (hso:SortsP n c o) :
  Acts prog 153 #[.slice (mA lb c) n c] V fun r V'=>∃(bm:Nat) (vm:List Value) (n' c':Nat) (m:List (Rat × Rat)),(vm≠[]->V'.w.heap[bm]?=some (.cells vm.toArray 145 (0,0)))/\(vm≠[]->V.w.heap.size<=bm \/ (vs≠[]/\bm=lb)) /\
   r=.slice (mA bm c') n' c'/\Row 6 RCP (V'.hideG (vm≠[]) bm) vm (cmpt eP m)/\n'=(cmpt eP m).length/\n'<=c'/\m.Perm o/\m.Pairwise fun x y=>¬ cCP y x < 0:=by
 have or3:∀{A B:Prop},A \/ B \/ False->A \/ B:=fun h=>h.imp id fun h=>h.elim id False.elim
 have hcap:=hg.cap
 have hle:=hg.le
 have hlen:=hg.len
 refine vc_geo_Directions lb n c vs V _ hw hx ⟨fun hz=>?_,fun hz V6 l6 bk6 f1 f2=>?_⟩
 ·subst hz
  have c0:c=0:=by simp at hcap; omega
  subst c0
  have n0:n=0:=by omega
  subst n0
  have hnil:o=[]:=List.length_eq_zero_iff.1 hlen.symm
  refine ⟨rfl,fun V1 l1=>c_SortFunc_nilP.mono ?_⟩
  rintro r V2 l2 rfl
  refine ⟨rfl,fun V3 l3 bk9 e1 e2=>c_CompactFunc_nilP.mono ?_⟩
  rintro r V4 l4 rfl
  refine ⟨0,[],fun h=>absurd rfl h,fun h=>absurd rfl h,none,0,0,rfl,fun V5 bk5 hl e3 e4=>⟨bk5,[],0,0,[],fun h=>absurd rfl h,fun h=>absurd rfl h,rfl,Row.nil,rfl,Nat.le_refl _,?_,List.Pairwise.nil⟩⟩
  rw [hnil]
 ·have hn0:=hpos hz
  have hc0:c≠0:=by omega
  have hmA:∀b,mA b c=some ⟨b,0,none⟩:=fun b=>by unfold mA; rw [if_neg hc0]
  rw [hmA]
  refine (hso (V6.lend [vb vs V6.w.heap.size bk6]) bk6 vs (f1 hz) ⟨by simp [vb_ne hz],f2 hz⟩ ⟨hg.row.le fun _ _ g=>RCP.le g fun b o h=>l6 b o h,hlen,hs⟩).mono ?_
  rintro r V7 l7 ⟨rfl,vs',m,e3,sr,pm,pw⟩
  have mlen:=pm.length_eq
  have hvne:vs'≠[]:=fun e=>by
   have:=sr.row.len_le (by decide)
   rw [e,mlen,← hlen] at this
   simp at this
   omega
  refine ⟨rfl,hz,vs',hvne,e3,fun V8 l8 bk8 g1 g2=>?_⟩
  rw [hmA]
  refine Acts.monoB (c_CompactFuncP (V:=V8.lend [vb vs' V8.w.heap.size bk8]) (lb:=bk8) (vs:=vs') (l:=m) (g1 hvne) ⟨by simp [vb_ne hvne],g2 hvne⟩ (sr.le fun b o h=>l8 b o h) hle) ?_
  rintro r V9 l9 hH ⟨ws,rfl,e4,row,wl⟩
  have hk:=cmpt_len (e:=eP) (l:=m)
  refine ⟨bk8,ws,fun _=>e4,fun _=>.inr ⟨hvne,rfl⟩,some ⟨bk8,0,none⟩,(cmpt eP m).length,c,by rw [hmA],fun V10 bk12 hl k1 k2=>⟨bk12,ws,_,c,m,k1,fun h=>or3 (k2 h),rfl,?_,rfl,by omega,pm,pw⟩⟩
  exact row.le fun _ _ g=>RCP.le g ((le_hideS fun _=>hH bk8 (g2 hvne)).trans hl)
/-- A vector; its numbers have at most k digits. -/
def RPk (k:Nat) (V:View) (v:Value) (c:Rat × Rat):Prop:=RPt V v c.1 c.2/\Sz k c.1/\Sz k c.2
theorem RPk.le {k:Nat} {V V':View} {v:Value} {c:Rat × Rat} (h:RPk k V v c) (l:V.Le V'):RPk k V' v c:=⟨h.1.le l,h.2⟩
theorem one6p {a b:Int} {p:OA} {c d:Int} {q:OA}:∀v ∈ ([.int .i64 a,.int .i64 b,.pointer p,.int .i64 c,.int .i64 d,.pointer q]:List Value),v.oneCell'=true:=by
 intro v hm
 simp only [List.mem_cons,List.not_mem_nil,or_false] at hm
 rcases hm with rfl | rfl | rfl | rfl | rfl | rfl <;> rfl
theorem lst_rpk {k:Nat} {V:View} {p:OA} {n:Nat} {al:List (Rat × Rat)} (h:Lst 6 (RPk k) V p n al) {i:Nat} (hi:i < al.length) :
  p.isSome=true/\∃(x y:Int) (q:OA) (x' y':Int) (q':OA) (a:Addr),addrAdd p (i * 6)=some a/\V.at (a.add 0) (.int .i64 x)/\V.at (a.add 1) (.int .i64 y)/\V.at (a.add 2) (.pointer q)/\V.at (a.add 3) (.int .i64 x')/\V.at (a.add 4) (.int .i64 y')/\V.at (a.add 5) (.pointer q') /\
   RPk k V (.agg #[.int .i64 x,.int .i64 y,.pointer q,.int .i64 x',.int .i64 y',.pointer q']) al[i]:=by
 obtain ⟨ad,h0,xs,h1,h2,h3⟩:=h.at_ i hi
 have h20:=h2
 obtain ⟨⟨x,y,q,x',y',q',e,-⟩,-⟩:=h2
 have e:=congrArg Array.toList (Value.agg.inj e)
 dsimp only at e
 subst e
 refine ⟨?_,x,y,q,x',y',q',ad,h0,h3 0 _ rfl,h3 1 _ rfl,h3 2 _ rfl,h3 3 _ rfl,h3 4 _ rfl,h3 5 _ rfl,h20⟩
 cases p with
 | none=>cases h0
 | some a=>rfl
/-- The sample between two rays that follow each other. -/
def smpP (u w:Rat × Rat):Rat × Rat:=if Sec.cr u w > 0 then (u.1 + w.1,u.2 + w.2) else (-u.2,u.1)
def secsP (D:List (Rat × Rat)):List (Rat × Rat):=if D=[] then [(1,0)] else Sec.secS smpP D
theorem sz_zero1:Sz 1 (0:Rat):=by unfold Sz; decide
theorem sz_zero':Sz 300000 (0:Rat):=sz_zero1.mono (by omega)
theorem secS_take {f:Rat × Rat->Rat × Rat->Rat × Rat} {D:List (Rat × Rat)}:Sec.secS f D=(List.range D.length).map fun i=>f (D.getD i (0,0)) (D.getD ((i + 1) % D.length) (0,0)):=rfl
theorem c_Sectors {V:View} {p:OA} {n c:Nat} {D:List (Rat × Rat)} (h:Lst 6 (RPk 100000) V p n D) (hn:D.length<=1000000) :
  Acts prog 152 #[.slice p n c] V fun r V'=>∃q n' c',r=.slice q n' c'/\Lst 6 (RPk 300000) V' q n' (secsP D):=by
 have hl:=h.len
 subst hl
 refine vc_geo_Sectors p D.length c V _ ⟨fun h0 V1 l1=>(c_frac_Int 1 (by omega) (by omega)).mono ?_,fun h0=>⟨fun z V'=>∃i:Nat,z.2.2.2=(i:Int)/\i<=D.length/\GR 6 (RPk 300000) V' z.1 z.2.1 z.2.2.1 ((List.range i).map fun i=>smpP (D.getD i (0,0)) (D.getD ((i + 1) % D.length) (0,0))),fun z=>(D.length - z.2.2.2).toNat,⟨(0,0,[],0),by and_intros <;> rfl,0,rfl,Nat.zero_le _,GR.nil⟩,?_⟩⟩
 ·have h0:D=[]:=List.length_eq_zero_iff.1 (by have:=(beq_iff_eq.1 h0); omega)
  rintro r V2 l2 g
  have g0:=g
  obtain ⟨a,b,q,rfl⟩:=g.shape
  refine ⟨_,_,_,rfl,fun V3 l3 bk hb=>⟨_,1,1,rfl,?_⟩⟩
  unfold secsP
  rw [if_pos h0]
  refine Lst.of_row hb (row_one rfl ⟨⟨_,_,_,_,_,_,rfl,g0.le l3,?_⟩,?_,sz_zero'⟩)
  ·exact RR.zero _
  ·exact (sz_one).mono (by omega)
 ·have h0:D.length≠0:=fun e=>by rw [e] at h0; cases h0
  rintro ⟨n1,c1,vs1,z⟩ V4 l4 ⟨i,e,hi,g⟩
  dsimp only at e g ⊢
  subst e
  have gl:=g.len
  have gl':n1=i:=by rw [gl]; simp
  refine ⟨rfl,fun hlt=>?_,fun hlt V13 l13 bk hb=>?_⟩
  ·have hlt:i < D.length:=by have:=of_decide_eq_true hlt; omega
   have w1:i64.wrap ((i:Int) + 1)=((i + 1:Nat):Int):=by rw [i64w (by omega)]; rfl
   have hm:(((i + 1:Nat):Int)).tmod (D.length:Int)=(((i + 1) % D.length:Nat):Int):=by rw [Int.ofNat_tmod]
   have hj:(i + 1) % D.length < D.length:=Nat.mod_lt _ (by omega)
   rw [w1,hm]
   simp only [Int.toNat_natCast]
   have h4:=h.le l4 fun _ _ g=>RPk.le g l4
   obtain ⟨ps,x,y,q,x',y',q',a,ha,a0,a1,a2,a3,a4,a5,gu⟩:=lst_rpk h4 hlt
   obtain ⟨-,u,v,t,u',v',t',b,hb,b0,b1,b2,b3,b4,b5,gw⟩:=lst_rpk h4 hj
   have eu:D.getD i (0,0)=D[i]:=by rw [List.getD_eq_getElem?_getD,List.getElem?_eq_getElem hlt]; rfl
   have ew:D.getD ((i + 1) % D.length) (0,0)=D[(i + 1) % D.length]:=by rw [List.getD_eq_getElem?_getD,List.getElem?_eq_getElem hj]; rfl
   refine ⟨ps,⟨by omega,by omega⟩,x,y,q,x',y',q',a,ha,a0,a1,a2,a3,a4,a5,by omega,ps,⟨by omega,by omega⟩,u,v,t,u',v',t',b,hb,b0,b1,b2,b3,b4,b5,?_⟩
   have es:(List.range (i + 1)).map (fun i=>smpP (D.getD i (0,0)) (D.getD ((i + 1) % D.length) (0,0)))=(List.range i).map (fun i=>smpP (D.getD i (0,0)) (D.getD ((i + 1) % D.length) (0,0)))++[smpP D[i] D[(i + 1) % D.length]]:=by
    rw [List.range_succ,List.map_append,List.map_singleton,eu,ew]
   generalize D[i]=U at *
   generalize D[(i + 1) % D.length]=W at *
   refine fun V5 l5=>(c_geo_Pt_Cross (gu.1.le l5) (gw.1.le l5) gu.2.1 gu.2.2 gw.2.1 gw.2.2 (by omega)).mono ?_
   rintro r V6 l6 gc
   have gc0:=gc
   obtain ⟨k1,k2,k3,rfl⟩:=gc.shape
   refine ⟨_,_,_,rfl,fun V7 l7=>(c_R_Sign (gc0.le l7) (z_geo_Pt_Cross_0 gu.2.1 gu.2.2 gw.2.1 gw.2.2) (by omega)).mono ?_⟩
   rintro r V8 l8 rfl
   have l48:=l5.trans (l6.trans (l7.trans l8))
   refine ⟨_,rfl,fun hp V9 l9=>(c_geo_Pt_Add (gu.1.le (l48.trans l9)) (gw.1.le (l48.trans l9)) gu.2.1 gu.2.2 gw.2.1 gw.2.2 (by omega)).mono ?_,fun hp V11 l11=>(c_geo_Pt_Turn (gu.1.le (l48.trans l11)) gu.2.1 gu.2.2 (by omega)).mono ?_⟩
   ·rintro r V10 l10 ga
    have hp:Sec.cr U W > 0:=Sec.sg_gt.1 (of_decide_eq_true hp)
    have ga0:RPk 300000 V10 r (smpP U W):=by
     unfold smpP
     rw [if_pos hp]
     exact ⟨ga,(z_geo_Pt_Add_0 gu.2.1 gu.2.2 gw.2.1 gw.2.2).mono (by omega),(z_geo_Pt_Add_1 gu.2.1 gu.2.2 gw.2.1 gw.2.2).mono (by omega)⟩
    obtain ⟨_,_,_,_,_,_,rfl,-⟩:=ga
    refine ⟨_,_,_,_,_,_,rfl,by omega,g.le,g.cap,rfl,one6p,fun sp c' g1 g2=>⟨(n1 + 1,c',_,((i + 1:Nat):Int)),by dsimp only; omega,by and_intros <;> first | rfl | trivial,i + 1,rfl,by omega,?_⟩⟩
    rw [es]
    exact (g.mono fun _ _ g=>RPk.le g (l48.trans (l9.trans l10))).snoc (xs:=[_,_,_,_,_,_]) rfl ga0 (by decide) g1 g2
   ·rintro r V12 l12 ga
    have hp:¬ Sec.cr U W > 0:=fun h=>(of_decide_eq_false hp) (Sec.sg_gt.2 h)
    have ga0:RPk 300000 V12 r (smpP U W):=by
     unfold smpP
     rw [if_neg hp]
     exact ⟨ga,gu.2.2.neg.mono (by omega),gu.2.1.mono (by omega)⟩
    obtain ⟨_,_,_,_,_,_,rfl,-⟩:=ga
    refine ⟨_,_,_,_,_,_,rfl,by omega,g.le,g.cap,rfl,one6p,fun sp c' g1 g2=>⟨(n1 + 1,c',_,((i + 1:Nat):Int)),by dsimp only; omega,by and_intros <;> first | rfl | trivial,i + 1,rfl,by omega,?_⟩⟩
    rw [es]
    exact (g.mono fun _ _ g=>RPk.le g (l48.trans (l11.trans l12))).snoc (xs:=[_,_,_,_,_,_]) rfl ga0 (by decide) g1 g2
  ·have hlt:i=D.length:=by have:=of_decide_eq_false hlt; omega
   subst hlt
   refine ⟨_,_,_,rfl,?_⟩
   have hD:D≠[]:=fun e=>h0 (by rw [e]; rfl)
   unfold secsP
   rw [if_neg hD,secS_take,gl]
   exact Lst.of_mrow hb (g.row.le fun _ _ g=>RPk.le g l13) (by decide) (by rw [← gl]; exact g.le)
theorem c_Classes {V:View} (i a:Bool):Acts prog 155 #[.bool i,.bool a] V fun r V'=>r=.int .i64 (if i && a then 2 else if i then 1 else 0):=by
 refine vc_geo_Classes i a V _ ⟨fun h=>⟨fun h' V1 l1=>?_,fun h'=>⟨fun h'' V2 l2=>?_,fun h'' V3 l3=>?_⟩⟩,fun h=>⟨fun h' V4 l4=>?_,fun h' V5 l5=>?_⟩⟩ <;> simp_all
theorem c_bsp_Toward {pv vv:Value} {p v:Rat × Rat} (s1:Sz 300000 p.1) (s2:Sz 300000 p.2) (s3:Sz 300000 v.1) (s4:Sz 300000 v.2) {t:Tr} {V:View} {q:OA} (h:RT V q t) (ha:t.All Bd) (hp:RPt V pv p.1 p.2) (hv:RPt V vv v.1 v.2) :
  Acts prog 84 #[.pointer q,pv,vv] V fun r V'=>r=.tuple #[.bool (Sec.tow t p v).1,.bool (Sec.tow t p v).2]:=by
 have hp0:=hp
 have hv0:=hv
 obtain ⟨x1,x2,x3,y1,y2,y3,rfl,-⟩:=hp
 obtain ⟨u1,u2,u3,w1,w2,w3,rfl,-⟩:=hv
 refine vc_bsp_T_Toward q x1 x2 x3 y1 y2 y3 u1 u2 u3 w1 w2 w3 V _ ⟨fun z k V'=>∃t',RT V' z t'/\t'.All Bd/\k=t'.size/\Sec.tow t' p v=Sec.tow t p v,⟨q,t.size,by and_intros <;> rfl,t,h,ha,rfl,rfl⟩,?_⟩
 rintro z k V1 l1 ⟨t',h',ha',rfl,e⟩
 rw [← e]
 clear e h ha t
 refine ⟨rfl,fun V2 l2=>(c_bsp_IsLeaf (h'.le l2)).mono ?_⟩
 rintro r V3 l3 rfl
 have l13:=l2.trans l3
 refine ⟨_,rfl,fun hl=>?_,fun hl=>?_⟩
 ·cases t' with
  | leaf i=>cases hl
  | node ln a b=>
   obtain ⟨bb,a1,a2,a3,b1,b2,b3,c1,c2,c3,pl,pr,i,rfl,hb,hln,hta,htb⟩:=h'.le l13
   obtain ⟨hbd,haa,hab⟩:=ha'
   have hat:∀{W:View},V3.Le W->∀j v,([.int .i64 a1,.int .i64 a2,.pointer a3,.int .i64 b1,.int .i64 b2,.pointer b3,.int .i64 c1,.int .i64 c2,.pointer c3,.pointer pl,.pointer pr,.bool i]:List Value)[j]?=some v->W.at ((⟨bb,0,none⟩:Addr).add j) v:=by
    intro W hW j v hv; rw [add_zero']; exact blk_at (xs:=[_,_,_,_,_,_,_,_,_,_,_,_]) (hW _ _ hb) hv
   have h0:=View.Le.refl V3
   have sl:=hbd.szl
   have L3:=l1.trans l13
   refine ⟨rfl,rfl,_,_,_,_,_,_,_,_,_,⟨bb,0,none⟩,rfl,hat h0 0 _ rfl,hat h0 1 _ rfl,hat h0 2 _ rfl,hat h0 3 _ rfl,hat h0 4 _ rfl,hat h0 5 _ rfl,hat h0 6 _ rfl,hat h0 7 _ rfl,hat h0 8 _ rfl,fun V4 l4=>(k_Side (L:=ln) (hln.le l4) (hp0.le (L3.trans l4)) (k:=300000) ⟨sl.1.mono (by omega),sl.2.1.mono (by omega),sl.2.2.mono (by omega)⟩ s1 s2 (by omega)).mono ?_⟩
   rintro r V5 l5 rfl
   have l35:=l4.trans l5
   refine ⟨_,rfl,fun z _=>z=Sec.sdv ln p v,⟨fun e0=>?_,fun e0=>?_⟩,?_⟩
   ·have e0:(valL ln p.1 p.2).num.sign=0:=by simpa using e0
    refine ⟨rfl,rfl,_,_,_,_,_,_,_,_,_,⟨bb,0,none⟩,rfl,hat l35 0 _ rfl,hat l35 1 _ rfl,hat l35 2 _ rfl,hat l35 3 _ rfl,hat l35 4 _ rfl,hat l35 5 _ rfl,hat l35 6 _ rfl,hat l35 7 _ rfl,hat l35 8 _ rfl,fun V6 l6=>(c_geo_Ln_Normal (hln.le (l35.trans l6)) sl.1 sl.2.1 sl.2.2 (by omega)).mono ?_⟩
    rintro r V7 l7 gn
    have gn0:=gn
    obtain ⟨d1,d2,d3,d4,d5,d6,rfl,-⟩:=gn
    refine ⟨_,_,_,_,_,_,rfl,fun V8 l8=>(c_geo_Pt_Dot (gn0.le l8) (hv0.le (L3.trans (l35.trans (l6.trans (l7.trans l8))))) (k:=300000) (sl.1.mono (by omega)) (sl.2.1.mono (by omega)) s3 s4 (by omega)).mono ?_⟩
    rintro r V9 l9 gd
    have gd0:=gd
    obtain ⟨e1,e2,e3,rfl⟩:=gd.shape
    refine ⟨_,_,_,rfl,fun V10 l10=>(c_R_Sign (gd0.le l10) (z_geo_Pt_Dot_0 (k:=300000) (sl.1.mono (by omega)) (sl.2.1.mono (by omega)) s3 s4) (by omega)).mono ?_⟩
    rintro r V11 l11 rfl
    refine ⟨_,rfl,_,by and_intros <;> rfl,?_⟩
    unfold Sec.sdv
    rw [if_pos e0]; rfl
   ·have e0:¬ (valL ln p.1 p.2).num.sign=0:=fun h=>by rw [h] at e0; cases e0
    refine ⟨_,by and_intros <;> rfl,?_⟩
    unfold Sec.sdv
    rw [if_neg e0]
   ·rintro z V12 l12 rfl
    have l312:=l35.trans l12
    refine ⟨rfl,fun e1=>⟨rfl,rfl,pl,rdc (l312 _ _ hb) 9 rfl,pl,a.size,by simp only [Tr.size]; omega,by and_intros <;> rfl,a,hta.le l312,haa,rfl,?_⟩,fun e1=>⟨fun e2=>⟨rfl,rfl,pr,rdc (l312 _ _ hb) 10 rfl,pr,b.size,by simp only [Tr.size]; omega,by and_intros <;> rfl,b,htb.le l312,hab,rfl,?_⟩,fun e2 V13 l13=>?_⟩⟩
    ·have e1:Sec.sdv ln p v=1:=by simpa using e1
     simp only [Sec.tow]; rw [if_pos e1]
    ·have e1:¬ Sec.sdv ln p v=1:=by simpa using e1
     have e2:Sec.sdv ln p v=-1:=by simpa using e2
     simp only [Sec.tow]; rw [if_neg e1,if_pos e2]
    ·have e1:¬ Sec.sdv ln p v=1:=by simpa using e1
     have e2:¬ Sec.sdv ln p v=-1:=by simpa using e2
     simp only [Sec.tow]; rw [if_neg e1,if_neg e2]
 ·cases t' with
  | node ln a b=>cases hl
  | leaf i=>
   obtain ⟨b,c0,c1,c2,c3,c4,c5,c6,c7,c8,r,rfl,hb⟩:=h'.le l13
   exact ⟨rfl,rfl,i,rdc hb 11 rfl,fun V14 l14=>rfl⟩
end Go.Proofs.Tryz
