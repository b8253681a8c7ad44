import Derived.Test.YtnnbfoejafcdlaaGreatDoorG5
import Derived.Test.YtnnbfoejafcdlaaGreatDoorCards
import Derived.Test.YtnnbfoejafcdlaaGreatDoorTie
import Derived.WalkKit
import Derived.ProofKit
import Derived.OpenShut
import Derived.Deep.DeepHandedRow
import Derived.LaidLaws
import Derived.Lay
import Derived.Carry
import Derived.LaidEql
import Derived.Stop.Asserts
import Derived.RowKitTokens
import Derived.IntWalk
import Derived.Test.YtnnbfoejafcdlaaGreatDoorG6
set_option linter.unusedVariables false
open Go.IntKind (i64 u64 u32)
namespace Go.Proofs.YtnnbfoejafcdlaaGreatDoor
open Go.ChangeShapes Go.WideShapes Go.ChangeAt Go.RowKit Go.bM
theorem own:ownKnob Tryz.prog.godebug=none:=by kernel_rfl
theorem star : "*" ++ "errors.errorString" = "*errors.errorString" := by decide
theorem XS (u : TypeId)(h : Tryz.prog.typeName? 3 u = some "*errors.errorString") : u = 294 :=
 typeName_ptr_named (nm := "errors.errorString") (by rw [star]; kernel_rfl) (by kernel_rfl) (by decide) u (by rw [star]; exact h)
theorem Py:Tryz.prog.cellsOf 319=1:=by kernel_rfl
theorem Pz:Tryz.prog.cellsOf 9=1:=by kernel_rfl
theorem XR (g:Nat):MemPlace.cell g 0∈MemPlace.row ⟨g,0,none⟩ 1:=by simp [MemPlace.row]
theorem Ox {P:Program}{W:World}{name:String}{g:Nat}{v:Value}(hg:P.globalNamed name=some g)(h:W.var? P name=some #[v]):W.cell? ⟨g,0,none⟩=some v:=by simpa using World.var?_cell hg h 0
set_option maxRecDepth 100000 in
theorem mF {W:World}{l:List (String×DataW Unit)}{name:String}{text:List UInt8}{g:Nat}(hg:Tryz.prog.globalNamed name=some g)(hty:(Tryz.prog.globals[g]?).map (·.type)=some 47)
  (hm : (name, .iface "*errors.errorString" (.ptr (.agg [.lit (.string text)]))) ∈ l)(h : laidMet Tryz.prog l W) :
  ∃a,W.cell? ⟨g,0,none⟩=some (.iface 294 (.pointer (some a))):=by
 obtain ⟨k,hv,-,c⟩:=h
 induction l generalizing k with
 | nil=>cases hm
 | cons x r ih=>
  obtain ⟨n,d⟩:=x
  obtain ⟨A,t,cs,fuel,p,q,i,m,f,o,w,rfl⟩:=hv
  rcases List.mem_cons.1 hm with e|hm
  ·cases e
   obtain rfl:=Option.some.inj (hg.symm.trans i)
   obtain rfl:=Option.some.inj (hty.symm.trans m)
   obtain ⟨y⟩:=cs
   have j:∀u v,y=[.iface u v]->Value.okWide Tryz.prog W .any 0 u v:=fun u v e=>by
    subst e
    exact (c g 0 (List.mem_append_left _ (List.mem_append_left _ (XR g)))).2 u v (Ox hg f)
   obtain ⟨a,s,rfl,-⟩:=errorString_of_trod Tryz.underlying47 XS Tryz.underlying294 Tryz.underlying319 rfl rfl Tryz.underlying9 Py Pz o j
   exact ⟨a,Ox hg f⟩
  ·exact ih hm q w fun b off z=>c b off (List.mem_append_right _ z)
def View.all (W:World):View:=⟨W,fun _=>False,fun _=>False,fun _ h=>h.elim,fun _ h=>h⟩
theorem D7 {w w':World}(h:fq (fun _=>False) w w')(may:MemPlace->Prop):w.keptBut w' may:=by
 refine ⟨h.os,h.out,fun i a=>?_⟩
 rw [h.bI i a (fun h=>h)]
 cases w.heap[i]? with
 | none=>rfl
 | some o=>cases o<;>simp
theorem yS {f:FuncId}{args:Array Value}{W:World}{R:Value->Prop}(h:ab Tryz.prog f args (View.all W) fun r _=>R r):Calls Tryz.prog f args W fun e w'=>∃r,e=.returned r/\R r/\fq (fun _=>False) W w':=
 h.2.mono fun e w' ⟨r,he,a,b⟩=>⟨r,he,b,a⟩
theorem laidOut:laidOutB Tryz.prog=true:=by kernel_rfl
theorem Bx {w w':World}(h:fq (fun _=>False) w w'):Below w.heap.size w w':=⟨h.os,h.tape,h.out,h.size,fun k a=>h.bI k a (fun h=>h)⟩
theorem Im {P:Program}(hlo:laidOutB P=true){H:Type}{enc:TypeId×Value->H}{W W':World}(hb:Below W.heap.size W W')(ts:List TypeId):∀{vs:List Value} {ds:List (DataW H)} {ps:List MemPlace},
  (ts.all fun t=>P.readableRec t&&decide (t<P.types.size))=true->DataW.TrodAll enc P W 0 (fun _=>true) true ts vs ds ps->(∀x∈ps,x.block<W.heap.size) ->
   DataW.TrodAll enc P W' 0 (fun b=>decide (b<W.heap.size)) true ts vs ds ps:=by
 induction ts with
 | nil=>
  intro vs ds ps _ h _
  obtain ⟨rfl,rfl,rfl⟩:=trodAll_nil h
  exact trodAll_mk0
 | cons t ts ih=>
  intro vs ds ps c h a
  obtain ⟨v,f,d,g,p,q,rfl,rfl,rfl,i,j⟩:=trodAll_cons h
  simp only [List.all_cons,Bool.and_eq_true,decide_eq_true_eq] at c
  exact trodAll_cons_mk (Below.trod hlo c.1.1 c.1.2 i hb fun x e=>a x (List.mem_append_left _ e)) (ih c.2 j fun x e=>a x (List.mem_append_right _ e))
set_option maxRecDepth 100000 in
theorem Nr {H:Type}{enc:TypeId×Value->H}{Za:FuncId}{f:Func}{s:ChangeSpec}{W:World}{args:Array Value}{ds gs:List (DataW H)}{before:List MemPlace}{fresh handsOn:Bool}
  (hW:DataW.Whole enc Tryz.prog f.params.toList s.vars false W args.toList ds gs before)(hvars:s.vars=[])(hts:(f.params.toList.all fun t=>Tryz.prog.readableRec t&&decide (t<Tryz.prog.types.size))=true)
  (hres:f.resultTypes=#[4])(hs:s.fn H (ds++gs)={ results:=[.lit (.bool true)],args:=ds })
  (h:ab Tryz.prog Za args (View.all W) fun r _=>r=.bool true):Calls Tryz.prog Za args W fun e W'=>∃v,e=.returned v/\s.post enc Tryz.prog f false fresh handsOn false W args v W':=by
 refine (yS h).mono fun e W' ⟨r,he,g,a⟩=>?_
 subst he g
 have b:=hW
 obtain ⟨p,q,i,d,rfl,-,-⟩:=hW
 rw [hvars] at d
 obtain ⟨rfl,rfl⟩:=trodVars_none d
 have c:∀x∈p++[],x.block<W.heap.size:=fun x a=>b.lt x a
 refine ⟨_,rfl,ds,_,p++[],[],p++[],[],b,?_,?_,?_,D7 a _,fun h=>nomatch h⟩
 ·rw [hs,hres]
  exact trodAll_cons_mk (shut_bool Tryz.underlying4 _) trodAll_mk0
 ·rw [hs,List.append_nil]
  exact Im laidOut (Bx a) _ hts i fun x a=>c x (by rw [List.append_nil];exact a)
 ·rw [hs,hvars]
  rfl
set_option maxRecDepth 100000 in
theorem EC {H:Type}{enc:TypeId×Value->H}{W:World}{p:OA}{n c:Nat}{d:DataW H}{ps:List MemPlace}
  (h:DataW.Trod enc Tryz.prog W 0 (fun _=>true) true 52 (.slice p n c) d ps):n<=c/\∀i,i<n->∃(a:Addr)(x:Int),ag p (i*1)=some a/\(View.all W).at a (.int .i64 x):=by
 obtain ⟨fuel,k⟩:=h
 rcases open_ints Tryz.underlying52 Tryz.underlying3 (show Tryz.prog.cellsOf 3=1 by kernel_rfl) k with ⟨b,-⟩|⟨a,f,g,o,b,_,l,-,m,-,e,-⟩
 ·simp [Value.cells] at b
  obtain ⟨rfl,rfl,rfl⟩:=b
  exact ⟨Nat.le_refl _,fun i j=>absurd j (by omega)⟩
 ·simp [Value.cells] at b
  obtain ⟨rfl,rfl,rfl⟩:=b
  simp only [if_true] at m
  exact ⟨l,fun i j=>⟨a.add i,_,by rw [Nat.mul_one];rfl,fun h=>h,e i (by omega)⟩⟩
end Go.Proofs.YtnnbfoejafcdlaaGreatDoor
namespace Go.fR
def val:List Nat->Nat
 | []=>0
 | d::r=>d+4294967296*val r
def bX (ds:List Nat):Prop:=∀d∈ds,d<4294967296
def cj:List Nat->List Nat
 | []=>[]
 | d::r=>if cj r=[]/\d=0 then [] else d::cj r
def tX (ds:List Nat):Prop:=cj ds=ds
def vQ:Nat->Nat->List Nat
 | 0,_=>[]
 | f+1,n=>if n=0 then [] else n%4294967296::vQ f (n / 4294967296)
def ah (n:Nat):List Nat:=vQ n n
@[simp] theorem fg:val []=0:=rfl
@[simp] theorem bo (d:Nat)(r:List Nat):val (d::r)=d+4294967296*val r:=rfl
theorem bX.nil:bX []:=fun _ h=>nomatch h
theorem bX.cons {d:Nat}{r:List Nat}:bX (d::r)↔d<4294967296/\bX r:=by simp [bX]
theorem bX.append {a b:List Nat}:bX (a++b)↔bX a/\bX b:=by simp [bX,or_imp,forall_and]
theorem bX.take {a:List Nat}(h:bX a)(k:Nat):bX (a.take k):=fun d b=>h d (List.mem_of_mem_take b)
theorem bX.drop {a:List Nat}(h:bX a)(k:Nat):bX (a.drop k):=fun d b=>h d (List.mem_of_mem_drop b)
theorem bX.set {a:List Nat}(h:bX a)(k x:Nat)(hx:x<4294967296):bX (a.set k x):=fun d c=>by
 rcases List.mem_or_eq_of_mem_set c with b|b
 ·exact h d b
 ·exact b▸hx
theorem bX.get {a:List Nat}(h:bX a){i:Nat}(hi:i<a.length):a[i]<4294967296:=h _ (List.getElem_mem hi)
theorem bX.rep (n:Nat):bX (List.replicate n 0):=fun d a=>by rw [List.eq_of_mem_replicate a];omega
theorem dS (a b:List Nat):val (a++b)=val a+4294967296^a.length*val b:=by
 induction a with
 | nil=>simp
 | cons d r ih=>simp only [List.cons_append,bo,ih,List.length_cons,Nat.pow_succ];grind
theorem gS {ds:List Nat}(h:bX ds):val ds<4294967296^ds.length:=by
 induction ds with
 | nil=>simp
 | cons d r ih=>
  have a:=bX.cons.1 h
  have:=ih a.2
  have c:=a.1
  simp only [bo,List.length_cons,Nat.pow_succ]
  have b:val r+1<=4294967296^r.length:=this
  have e:=Nat.mul_le_mul_left 4294967296 b
  omega
theorem u_ (n:Nat):val (List.replicate n 0)=0:=by
 induction n with
 | zero=>rfl
 | succ n ih=>simp [List.replicate_succ,ih]
theorem ax (ds:List Nat)(i:Nat)(h:i<ds.length):val (ds.take (i+1))=val (ds.take i)+4294967296^i*ds[i]:=by
 rw [List.take_succ_eq_append_getElem h,dS]
 simp [List.length_take,Nat.min_eq_left (Nat.le_of_lt h)]
theorem aq {ds:List Nat}{i:Nat}(h:ds.length<=i):val (ds.take i)=val ds:=by rw [List.take_of_length_le h]
theorem zk (ds:List Nat)(i x:Nat)(h:i<ds.length):(ds.set i x).take (i+1)=ds.take i++[x]:=by
 rw [List.take_succ_eq_append_getElem (by simpa using h),List.take_set,List.set_eq_of_length_le (by simp;omega)]
 simp
theorem aK (ds:List Nat)(i x:Nat)(h:i<ds.length):val ((ds.set i x).take (i+1))=val (ds.take i)+4294967296^i*x:=by
 rw [zk ds i x h,dS]
 simp [List.length_take,Nat.min_eq_left (Nat.le_of_lt h)]
theorem iP (r:List Nat):cj (r++[0])=cj r:=by
 induction r with
 | nil=>simp [cj]
 | cons d r ih=>simp only [List.cons_append,cj,ih]
theorem pJ (r:List Nat)(d:Nat)(h:d≠0):cj (r++[d])=r++[d]:=by
 induction r with
 | nil=>simp [cj,h]
 | cons x r ih=>simp [List.cons_append,cj,ih]
theorem Jv (ds:List Nat):val (cj ds)=val ds:=by
 induction ds with
 | nil=>rfl
 | cons d r ih=>
  simp only [cj]
  split
  ·rename_i h
   rw [bo,←ih,h.1,h.2];rfl
  ·simp [ih]
theorem lE (ds:List Nat):(cj ds).length<=ds.length:=by
 induction ds with
 | nil=>simp [cj]
 | cons d r ih=>simp only [cj];split<;>simp<;>omega
theorem Jt (ds:List Nat):cj ds=ds.take (cj ds).length:=by
 induction ds with
 | nil=>rfl
 | cons d r ih=>
  simp only [cj]
  split
  ·rfl
  ·simp only [List.length_cons,List.take_succ_cons];rw [←ih]
theorem bX.trim {ds:List Nat}(h:bX ds):bX (cj ds):=by rw [Jt];exact h.take _
theorem ES (ds:List Nat):tX (cj ds):=by
 unfold tX
 induction ds with
 | nil=>rfl
 | cons d r ih=>
  rw [cj]
  split
  ·rfl
  ·rename_i h;rw [cj,ih,if_neg h]
theorem tX.tail {d:Nat}{r:List Nat}(h:tX (d::r)):tX r:=by
 unfold tX at h ⊢
 simp only [cj] at h
 split at h
 ·cases h
 ·injection h
theorem tX.zero {ds:List Nat}(h:tX ds)(hv:val ds=0):ds=[]:=by
 induction ds with
 | nil=>rfl
 | cons d r ih=>
  have a:=ih h.tail (by simp at hv;omega)
  subst a
  simp at hv;subst hv
  simp [tX,cj] at h
theorem qk:∀(f n:Nat),n<=f->val (vQ f n)=n/\bX (vQ f n)/\tX (vQ f n)
 | 0,n,h=>⟨by simp [vQ];omega,bX.nil,rfl⟩
 | f+1,n,h=>by
  simp only [vQ]
  split
  ·subst_vars;exact ⟨rfl,bX.nil,rfl⟩
  ·obtain ⟨h1,h2,h3⟩:=qk f (n / 4294967296) (by omega)
   refine ⟨by rw [bo,h1];omega,bX.cons.2 ⟨by omega,h2⟩,?_⟩
   unfold tX at h3 ⊢
   rw [cj,h3,if_neg]
   rintro ⟨a,b⟩
   rw [a] at h1
   simp at h1
   omega
theorem ae (n:Nat):val (ah n)=n:=(qk n n (Nat.le_refl _)).1
theorem aE (n:Nat):bX (ah n):=(qk n n (Nat.le_refl _)).2.1
theorem jH (n:Nat):tX (ah n):=(qk n n (Nat.le_refl _)).2.2
theorem tX.ext:∀{a b:List Nat},bX a->bX b->tX a->tX b->val a=val b->a=b
 | [],b,_,_,_,hb,h=>(hb.zero (by rw [←h];rfl)).symm
 | d::r,[],_,_,ha,_,h=>by have:=ha.zero h;cases this
 | d::r,e::s,ha,hb,na,nb,h=>by
  have f:=(bX.cons.1 ha).1
  have g:=(bX.cons.1 hb).1
  simp only [bo] at h
  have:val r=val s:=by omega
  have c:=tX.ext (bX.cons.1 ha).2 (bX.cons.1 hb).2 na.tail nb.tail this
  have:d=e:=by omega
  subst this;rw [c]
theorem vR {ds:List Nat}(h:bX ds)(hn:tX ds):ah (val ds)=ds:=tX.ext (aE _) h (jH _) hn (ae _)
theorem aO {ds:List Nat}(h:bX ds):cj ds=ah (val ds):=by
 rw [←Jv,vR h.trim (ES _)]
theorem qm {a b:Nat}(h:ah a=ah b):a=b:=by rw [←ae a,h,ae]
@[simp] theorem AD:ah 0=[]:=rfl
theorem bC {n:Nat}:ah n=[]↔n=0:=⟨fun h=>qm (by rw [h];rfl),fun h=>h▸rfl⟩
theorem tX.last {ds:List Nat}(h:tX ds)(hl:0<ds.length):ds[ds.length-1]≠0:=by
 intro e
 have a:ds=ds.take (ds.length-1)++[ds[ds.length-1]]:=by
  rw [←List.take_succ_eq_append_getElem (by omega),Nat.sub_add_cancel hl,List.take_length]
 rw [e] at a
 have b:cj ds=ds:=h
 rw [a,iP] at b
 have:=lE (ds.take (ds.length-1))
 rw [b] at this
 simp at this
 omega
theorem Ej {ds:List Nat}(h:∀hl:0<ds.length,ds[ds.length-1]≠0):tX ds:=by
 rcases Nat.eq_zero_or_pos ds.length with e|e
 ·rw [List.length_eq_zero_iff.1 e];rfl
 ·have a:ds=ds.take (ds.length-1)++[ds[ds.length-1]]:=by
   rw [←List.take_succ_eq_append_getElem (by omega),Nat.sub_add_cancel e,List.take_length]
  have:=pJ (ds.take (ds.length-1)) _ (h e)
  rw [←a] at this
  exact this
theorem Me {ds:List Nat}(h:tX ds)(hl:0<ds.length):4294967296^(ds.length-1)<=val ds:=by
 have a:ds=ds.take (ds.length-1)++[ds[ds.length-1]]:=by
  rw [←List.take_succ_eq_append_getElem (by omega),Nat.sub_add_cancel hl,List.take_length]
 have b:=h.last hl
 rw [a,dS]
 simp only [bo,fg,List.length_take]
 rw [Nat.min_eq_left (by omega)]
 simp only [List.length_append,List.length_take,List.length_singleton]
 rw [Nat.min_eq_left (by omega),Nat.sub_add_cancel hl]
 have:4294967296^(ds.length-1)*1<=4294967296^(ds.length-1)*(ds[ds.length-1]+4294967296*0):=Nat.mul_le_mul_left _ (by omega)
 omega
theorem aF {n k:Nat}:(ah n).length<=k↔n<4294967296^k:=by
 constructor
 ·intro h
  have:=gS (aE n)
  rw [ae] at this
  exact Nat.lt_of_lt_of_le this (Nat.pow_le_pow_right (by omega) h)
 ·intro h
  rcases Nat.lt_or_ge k (ah n).length with a|a
  ·have:=Me (jH n) (by omega)
   rw [ae] at this
   have b:4294967296^k<=4294967296^((ah n).length-1):=Nat.pow_le_pow_right (by omega) (by omega)
   omega
  ·exact a
theorem tE {n k:Nat}:k<(ah n).length↔4294967296^k<=n:=by
 have:=@aF n k
 omega
theorem ic (ds:List Nat)(i:Nat)(h:i<ds.length):val ds=val (ds.take i)+4294967296^i*(ds[i]+4294967296*val (ds.drop (i+1))):=by
 have a:val ds=val (ds.take i++ds.drop i):=by rw [List.take_append_drop]
 rw [a,dS,List.drop_eq_getElem_cons h]
 simp only [List.length_take,Nat.min_eq_left (Nat.le_of_lt h),bo]
theorem kh {a b:List Nat}{i:Nat}(ha:bX a)(hi:i<a.length)(hj:i<b.length)(hd:a.drop (i+1)=b.drop (i+1))(hl:a[i]<b[i]):val a<val b:=by
 rw [ic a i hi,ic b i hj,hd]
 have c:=gS (ha.take i)
 simp only [List.length_take,Nat.min_eq_left (Nat.le_of_lt hi)] at c
 have d:4294967296^i*(a[i]+4294967296*val (b.drop (i+1))+1)<=4294967296^i*(b[i]+4294967296*val (b.drop (i+1))):=Nat.mul_le_mul_left _ (by omega)
 rw [Nat.mul_add,Nat.mul_one] at d
 omega
theorem ll {a b:Nat}(h:(ah a).length<(ah b).length):a<b:=by
 have c:=gS (aE a)
 have d:=Me (jH b) (by omega)
 rw [ae] at c d
 have e:4294967296^(ah a).length<=4294967296^((ah b).length-1):=Nat.pow_le_pow_right (by omega) (by omega)
 omega
def kZ (a b:Nat):Int:=if a<b then -1 else if b<a then 1 else 0
theorem aH {a b:Nat}(h:a<=b):(ah a).length<=(ah b).length:=by
 rcases Nat.lt_or_ge (ah b).length (ah a).length with c|c
 ·have:=ll c;omega
 ·exact c
theorem bg {ds:List Nat}(h:bX ds):(ah (val ds)).length<=ds.length:=by rw [←aO h];exact lE ds
theorem MY {n:Nat}(h:n<4294967296)(h0:n≠0):ah n=[n]:=by
 have:tX [n]:=by simp [tX,cj,h0]
 have:=vR (by simp [bX];exact h) this
 simpa using this
end Go.fR
namespace Go.Proofs.Tryz
open Go.fR
section
variable {α:Type}
structure Ord (c:α->α->Int):Prop where
 Q4:∀a b,c a b<0->¬c b a<0
 tr:∀a b d,¬c a b<0->¬c b d<0->¬c a d<0
variable {c:α->α->Int}
theorem Ord.le (h:Ord c){a b:α}(l:c a b<0):¬c b a<0:=h.Q4 a b l
theorem Ord.refl (h:Ord c)(a:α):¬c a a<0:=fun l=>h.Q4 a a l l
def tO (d:α)(l:List α)(i j:Nat):List α:=(l.set i (l.getD j d)).set j (l.getD i d)
variable {d:α}
theorem qT {l:List α}{i j:Nat}:(tO d l i j).length=l.length:=by simp [tO]
theorem qp {l:List α}{i k:Nat}{x:α}(hi:i<l.length):(l.set i x).getD k d=if k=i then x else l.getD k d:=by
 simp only [List.getD_eq_getElem?_getD,List.getElem?_set]
 by_cases h:k=i
 ·subst h;simp [hi]
 ·have:¬i=k:=fun e=>h e.symm
  simp [h,this]
theorem pE {l:List α}{i j k:Nat}(hi:i<l.length)(hj:j<l.length):(tO d l i j).getD k d=if k=j then l.getD i d else if k=i then l.getD j d else l.getD k d:=by
 unfold tO
 rw [qp (by simpa using hj),qp hi]
theorem L7 {l:List α}{i j:Nat}(hi:i<l.length)(hj:j<l.length):(tO d l i j).Perm l:=by
 have h:=Array.swap_perm (xs:=l.toArray) (i:=i) (j:=j) (by simpa using hi) (by simpa using hj)
 have e:(l.toArray.swap i j (by simpa using hi) (by simpa using hj)).toList=tO d l i j:=by
  simp [Array.swap,tO,List.getD_eq_getElem?_getD,hi,hj]
 have:=h.toList
 rw [e] at this
 simpa using this
structure th (d:α) (l m:List α) (a b:Nat):Prop where
 len:m.length=l.length
 out:∀k,¬(a<=k/\k<b)->m.getD k d=l.getD k d
 mem:∀k,a<=k->k<b->∃k',a<=k'/\k'<b/\m.getD k d=l.getD k' d
 perm:m.Perm l
theorem th.refl (l:List α)(a b:Nat):th d l l a b:=⟨rfl,fun _ _=>rfl,fun k h c=>⟨k,h,c,rfl⟩,.refl _⟩
theorem th.trans {l m n:List α}{a b:Nat}(h:th d l m a b)(g:th d m n a b):th d l n a b:=
 ⟨g.len.trans h.len,fun k f=>(g.out k f).trans (h.out k f),fun k i j=>by
  obtain ⟨o,p,q,e⟩:=g.mem k i j
  obtain ⟨c,r,s,t⟩:=h.mem o p q
  exact ⟨c,r,s,e.trans t⟩,g.perm.trans h.perm⟩
theorem th.wide {l m:List α}{a b a' b':Nat}(h:th d l m a b)(ha:a'<=a)(hb:b<=b'):th d l m a' b':=
 ⟨h.len,fun k c=>h.out k (by omega),fun k f g=>by
  by_cases c:a<=k/\k<b
  ·obtain ⟨i,j,n,e⟩:=h.mem k c.1 c.2
   exact ⟨i,by omega,by omega,e⟩
  ·exact ⟨k,f,g,h.out k c⟩,h.perm⟩
theorem th.tO {l:List α}{a b i j:Nat}(hi:a<=i)(hi':i<b)(hj:a<=j)(hj':j<b)(hb:b<=l.length):th d l (tO d l i j) a b:=by
 refine ⟨qT,fun k f=>?_,fun k c e=>?_,L7 (by omega) (by omega)⟩
 ·rw [pE (by omega) (by omega),if_neg (by omega),if_neg (by omega)]
 ·rw [pE (by omega) (by omega)]
  split
  ·exact ⟨i,hi,hi',rfl⟩
  ·split
   ·exact ⟨j,hj,hj',rfl⟩
   ·exact ⟨k,c,e,rfl⟩
def yC (c:α->α->Int)(d:α)(l:List α)(a b:Nat):Prop:=∀p q,a<=p->p<q->q<b->¬c (l.getD q d) (l.getD p d)<0
theorem yC.short {l:List α}{a b:Nat}(h:b<=a+1):yC c d l a b:=fun p q e f g=>by omega
theorem yC.step (ho:Ord c){l:List α}{a b:Nat}(h:yC c d l a b)(h0:a<b)(hb:¬c (l.getD b d) (l.getD (b-1) d)<0):yC c d l a (b+1):=by
 intro p q f g j
 by_cases e:q=b
 ·subst e
  by_cases i:p=q-1
  ·subst i;exact hb
  ·exact ho.tr _ _ _ hb (h p (q-1) f (by omega) (by omega))
 ·exact h p q f g (by omega)
def Pk (c:α->α->Int)(d:α)(l:List α)(a i j:Nat):Prop:=∀p q,a<=p->p<q->q<=i->q≠j->¬c (l.getD q d) (l.getD p d)<0
theorem Pk.start {l:List α}{a i:Nat}(h:yC c d l a i):Pk c d l a i i:=fun p q b e f g=>h p q b e (by omega)
theorem Pk.done (ho:Ord c){l:List α}{a i j:Nat}(h:Pk c d l a i j)(hji:j<=i)(hs:j<=a\/¬c (l.getD j d) (l.getD (j-1) d)<0):yC c d l a (i+1):=by
 intro p q b f k
 by_cases e:q=j
 ·subst e
  rcases hs with hs|hs
  ·omega
  ·by_cases g:p=q-1
   ·subst g;exact hs
   ·exact ho.tr _ _ _ hs (h p (q-1) b (by omega) (by omega) (by omega))
 ·exact h p q b f (by omega) e
theorem Pk.move (ho:Ord c){l:List α}{a i j:Nat}(h:Pk c d l a i j)(hj:a<j)(hji:j<=i)(hi:i<l.length)(hl:c (l.getD j d) (l.getD (j-1) d)<0):Pk c d (tO d l j (j-1)) a i (j-1):=by
 intro p q f n e o
 have g:=fun k=>pE (d:=d) (l:=l) (i:=j) (j:=j-1) (k:=k) (by omega) (by omega)
 rw [g,g]
 by_cases eq:q=j
 ·subst eq
  rw [if_neg (by omega),if_pos rfl]
  by_cases b:p=q-1
  ·rw [if_pos b];exact ho.Q4 _ _ hl
  ·rw [if_neg b,if_neg (by omega)];exact h p (q-1) f (by omega) (by omega) (by omega)
 ·rw [if_neg o,if_neg eq]
  by_cases b:p=j-1
  ·rw [if_pos b];exact h j q (by omega) (by omega) e eq
  ·rw [if_neg b]
   by_cases m:p=j
   ·rw [if_pos m];exact h (j-1) q (by omega) (by omega) e eq
   ·rw [if_neg m];exact h p q f n e eq
def Hp (c:α->α->Int)(d:α)(l:List α)(f lo hi:Nat)(r:Option Nat):Prop:=
 (∀i k,lo<=i->(k=2*i+1\/k=2*i+2)->k<hi->r≠some i->¬c (l.getD (f+i) d) (l.getD (f+k) d)<0) /\
 (∀i j k,r=some j->lo<=i->(j=2*i+1\/j=2*i+2)->(k=2*j+1\/k=2*j+2)->k<hi->¬c (l.getD (f+i) d) (l.getD (f+k) d)<0)
theorem Hp.top (ho:Ord c){l:List α}{f hi:Nat}(h:Hp c d l f 0 hi none):∀k,k<hi->¬c (l.getD f d) (l.getD (f+k) d)<0:=by
 intro k
 induction k using Nat.strongRecOn with
 | ind k ih=>
  intro a
  by_cases b:k=0
  ·subst b;exact ho.refl _
  ·exact ho.tr _ _ _ (ih ((k-1) / 2) (by omega) (by omega)) (h.1 ((k-1) / 2) k (by omega) (by omega) a (by simp))
theorem Hp.leaf {l:List α}{f lo hi r:Nat}(h:Hp c d l f lo hi (some r))(hr:hi<=2*r+1):Hp c d l f lo hi none:=
 ⟨fun i k a b g _=>by
  by_cases e:r=i
  ·omega
  ·exact h.1 i k a b g (by simpa using e),fun i j k e=>by cases e⟩
theorem Hp.stop (ho:Ord c){l:List α}{f lo hi r k:Nat}(h:Hp c d l f lo hi (some r))(hk:k=2*r+1\/k=2*r+2)(hm:∀k',(k'=2*r+1\/k'=2*r+2)->k'<hi->¬c (l.getD (f+k) d) (l.getD (f+k') d)<0)
  (hs:¬c (l.getD (f+r) d) (l.getD (f+k) d)<0):Hp c d l f lo hi none:=
 ⟨fun i k' g a b _=>by
  by_cases e:r=i
  ·subst e;exact ho.tr _ _ _ hs (hm k' a b)
  ·exact h.1 i k' g a b (by simpa using e),fun i j k e=>by cases e⟩
theorem Hp.down (ho:Ord c){l:List α}{f lo hi r k:Nat}(h:Hp c d l f lo hi (some r))(hlo:lo<=r)(hl:f+hi<=l.length)(hk:k=2*r+1\/k=2*r+2)(hkh:k<hi)(hm:∀k',(k'=2*r+1\/k'=2*r+2)->k'<hi->¬c (l.getD (f+k) d) (l.getD (f+k') d)<0)
  (hs:c (l.getD (f+r) d) (l.getD (f+k) d)<0):Hp c d (tO d l (f+r) (f+k)) f lo hi (some k):=by
 have a:=fun x=>pE (d:=d) (l:=l) (i:=f+r) (j:=f+k) (k:=x) (by omega) (by omega)
 refine ⟨fun i k' n b g m=>?_,fun i j k' e n b g m=>?_⟩
 ·have m:¬i=k:=fun e=>m (by rw [e])
  rw [a,a,if_neg (show ¬f+i=f+k by omega)]
  by_cases p:i=r
  ·subst p
   rw [if_pos rfl]
   by_cases o:k'=k
   ·rw [if_pos (by omega)];exact ho.Q4 _ _ hs
   ·rw [if_neg (by omega),if_neg (by omega)];exact hm k' b g
  ·rw [if_neg (by omega)]
   by_cases o:k'=r
   ·subst o
    rw [if_neg (by omega),if_pos rfl]
    exact h.2 i k' k rfl n b hk hkh
   ·rw [if_neg (by omega),if_neg (by omega)]
    exact h.1 i k' n b g (by simp;omega)
 ·cases e
  rw [a,a]
  have:i=r:=by omega
  subst this
  rw [if_neg (by omega),if_pos rfl,if_neg (by omega),if_neg (by omega)]
  exact h.1 k k' (by omega) g m (by simp;omega)
theorem Hp.more {l:List α}{f lo hi:Nat}(h:Hp c d l f (lo+1) hi none):Hp c d l f lo hi (some lo):=
 ⟨fun i k m a b g=>h.1 i k (by have:¬lo=i:=fun e=>g (by rw [e]);omega) a b (by simp),fun i j k e m a b g=>by cases e;omega⟩
def Sep (c:α->α->Int)(d:α)(l:List α)(a m b:Nat):Prop:=∀p q,a<=p->p<m->m<=q->q<b->¬c (l.getD q d) (l.getD p d)<0
theorem th.sep {l m:List α}{a b x y z:Nat}(h:th d l m a b)(hs:Sep c d l x y z)(hc:(x<=a/\b<=y)\/(y<=a/\b<=z)\/b<=x\/z<=a):Sep c d m x y z:=by
 intro p q r s t u
 have key:∀k,∃f,m.getD k d=l.getD f d/\(k=f\/a<=k/\k<b/\a<=f/\f<b):=fun k=>by
  by_cases g:a<=k/\k<b
  ·obtain ⟨f,i,j,e⟩:=h.mem k g.1 g.2
   exact ⟨f,e,.inr ⟨g.1,g.2,i,j⟩⟩
  ·exact ⟨k,h.out k g,.inl rfl⟩
 obtain ⟨n,i,j⟩:=key p
 obtain ⟨o,f1,f2⟩:=key q
 rw [i,f1]
 exact hs n o (by omega) (by omega) (by omega) (by omega)
theorem th.rM {l m:List α}{a b x y:Nat}(h:th d l m a b)(hs:yC c d l x y)(hc:y<=a\/b<=x):yC c d m x y:=by
 intro p q e f g
 rw [h.out p (by omega),h.out q (by omega)]
 exact hs p q e f g
theorem yC.join {l:List α}{a m b:Nat}(h1:yC c d l a m)(h2:yC c d l m b)(h3:Sep c d l a m b):yC c d l a b:=by
 intro p q e f g
 by_cases h:q<m
 ·exact h1 p q e f h
 ·by_cases i:m<=p
  ·exact h2 p q i f g
  ·exact h3 p q e (by omega) (by omega) g
end
end Go.Proofs.Tryz
namespace Go.Proofs.Tryz.ai
abbrev V2:=Rat×Rat
def cr (u v:V2):Rat:=u.1*v.2-u.2*v.1
def dt (u v:V2):Rat:=u.1*v.1+u.2*v.2
def TU (u:V2):V2:=(-u.2,u.1)
def up (u:V2):Prop:=u.2>0\/u.2=0/\u.1>0
def dn (u:V2):Prop:=u.2<0\/u.2=0/\u.1<0
def nz (u:V2):Prop:=u.1≠0\/u.2≠0
def tY (u v:V2):Prop:=(up u/\dn v)\/((up u/\up v\/dn u/\dn v)/\cr u v>0)
def MB (a:Rat)(u:V2)(b:Rat)(w:V2):V2:=(a*u.1+b*w.1,a*u.2+b*w.2)
def Xo (s r:V2):Prop:=∃c:Rat,c>0/\s.1=-(c*r.1)/\s.2=-(c*r.2)
theorem nT {u:V2}(h:nz u):up u\/dn u:=by unfold nz at h;unfold up dn;grind
theorem fD {u:V2}(h:up u)(h':dn u):False:=by unfold up at h;unfold dn at h';grind
theorem iq (u v:V2):cr v u=-cr u v:=by unfold cr;grind
theorem Qa (u w r:V2):cr u r*w.1+cr r w*u.1=cr u w*r.1:=by unfold cr;grind
theorem Gh (u w r:V2):cr u r*w.2+cr r w*u.2=cr u w*r.2:=by unfold cr;grind
theorem F2 (r:V2)(a:Rat)(u:V2)(b:Rat)(w:V2):cr r (MB a u b w)=a*cr r u+b*cr r w:=by unfold cr MB;grind
theorem PB (r u:V2):cr r (TU u)=dt r u:=by unfold cr TU dt;grind
theorem Cj {s r:V2}(h:Xo s r)(z:V2):∃c:Rat,c>0/\cr s z=-(c*cr r z)/\cr z s=-(c*cr z r):=by
 obtain ⟨c,d,a,b⟩:=h
 exact ⟨c,d,by unfold cr;rw [a,b];grind,by unfold cr;rw [a,b];grind⟩
theorem mp {a b:Rat}(ha:a>0)(hb:b>0):a*b>0:=Rat.mul_pos ha hb
theorem mn {a b:Rat}(ha:a≥0)(hb:b≥0):a*b≥0:=Rat.mul_nonneg ha hb
theorem b1 {u w r:V2}(hu:up u)(hw:dn w)(hr:up r)(a:cr u r>0)(b:cr r w<=0)(c:cr u w≥0):False:=by
 have e:=Gh u w r
 unfold up at hu hr;unfold dn at hw
 have f:cr u r*(-w.2)≥0:=mn (by grind) (by grind)
 have g:(-(cr r w))*u.2≥0:=mn (by grind) (by grind)
 have i:cr u w*r.2≥0:=mn c (by grind)
 have d:cr u r*w.2=0:=by grind
 have j:w.2=0:=by rcases Rat.mul_eq_zero.1 d with h|h<;>grind
 have k:w.1<0:=by grind
 have l:cr r w=-(r.2*w.1):=by unfold cr;grind
 have m:r.2=0:=by
  by_cases h:r.2>0
  ·have:=mp h (show -w.1>0 by grind)
   grind
  ·grind
 have n:r.1>0:=by grind
 have o:cr u r=-(u.2*r.1):=by unfold cr;grind
 have:=mn (show u.2≥0 by grind) (show r.1≥0 by grind)
 grind
theorem b2 {u w r:V2}(hu:up u)(hw:dn w)(hr:dn r)(a:cr u r<=0)(b:cr r w>0)(c:cr u w≥0):False:=by
 have e:=Gh u w r
 unfold up at hu;unfold dn at hw hr
 have g:(-(cr u r))*(-w.2)≥0:=mn (by grind) (by grind)
 have i:cr r w*u.2≥0:=mn (by grind) (by grind)
 have j:cr u w*(-r.2)≥0:=mn c (by grind)
 have d:cr r w*u.2=0:=by grind
 have k:u.2=0:=by rcases Rat.mul_eq_zero.1 d with h|h<;>grind
 have f:u.1>0:=by grind
 have l:cr u w=u.1*w.2:=by unfold cr;grind
 have m:w.2=0:=by
  by_cases h:w.2<0
  ·have:=mp f (show -w.2>0 by grind)
   grind
  ·grind
 have n:w.1<0:=by grind
 have o:cr r w=-(r.2*w.1):=by unfold cr;grind
 have:=mn (show -r.2≥0 by grind) (show -w.1≥0 by grind)
 grind
theorem b3 {u w r:V2}(hu:dn u)(hw:up w)(hr:dn r)(a:cr u r>0)(b:cr r w<=0)(c:cr u w≥0):False:=by
 have e:=Gh u w r
 unfold dn at hu hr;unfold up at hw
 have g:cr u r*w.2≥0:=mn (by grind) (by grind)
 have i:(-(cr r w))*(-u.2)≥0:=mn (by grind) (by grind)
 have j:cr u w*(-r.2)≥0:=mn c (by grind)
 have d:cr u r*w.2=0:=by grind
 have k:w.2=0:=by rcases Rat.mul_eq_zero.1 d with h|h<;>grind
 have f:w.1>0:=by grind
 have l:cr r w=-(r.2*w.1):=by unfold cr;grind
 have m:r.2=0:=by
  by_cases h:r.2<0
  ·have:=mp f (show -r.2>0 by grind)
   grind
  ·grind
 have n:r.1<0:=by grind
 have o:cr u r=-(u.2*r.1):=by unfold cr;grind
 have:=mn (show -u.2≥0 by grind) (show -r.1≥0 by grind)
 grind
theorem b4 {u w r:V2}(hu:dn u)(hw:up w)(hr:up r)(a:cr u r<=0)(b:cr r w>0)(c:cr u w≥0):False:=by
 have e:=Gh u w r
 unfold dn at hu;unfold up at hw hr
 have f:(-(cr u r))*w.2≥0:=mn (by grind) (by grind)
 have g:cr r w*(-u.2)≥0:=mn (by grind) (by grind)
 have i:cr u w*r.2≥0:=mn c (by grind)
 have d:cr r w*u.2=0:=by grind
 have j:u.2=0:=by rcases Rat.mul_eq_zero.1 d with h|h<;>grind
 have k:u.1<0:=by grind
 have l:cr u w=u.1*w.2:=by unfold cr;grind
 have m:w.2=0:=by
  by_cases h:w.2>0
  ·have:=mp h (show -u.1>0 by grind)
   grind
  ·grind
 have n:w.1>0:=by grind
 have o:cr r w=-(r.2*w.1):=by unfold cr;grind
 have:=mn (show r.2≥0 by grind) (show w.1≥0 by grind)
 grind
structure Oo (D:List V2):Prop where
 nz:∀r∈D,nz r
 cl:∀r∈D,∃s∈D,Xo s r
 rM:D.Pairwise tY
def ss (a b:Rat):Prop:=(b>0->a>0)/\(b<0->a<0)
theorem kv {u v:V2}(hu:up u)(hv:up v):tY u v->cr u v>0:=by
 rintro (⟨_,h⟩|⟨_,h⟩)
 ·exact (fD hv h).elim
 ·exact h
theorem jo {u v:V2}(hu:dn u)(hv:dn v):tY u v->cr u v>0:=by
 rintro (⟨h,_⟩|⟨_,h⟩)
 ·exact (fD h hu).elim
 ·exact h
theorem fS {u v:V2}(hu:dn u)(hv:up v):¬tY u v:=by
 rintro (⟨h,_⟩|⟨⟨h,_⟩|⟨_,h⟩,_⟩)
 ·exact fD h hu
 ·exact fD h hu
 ·exact fD hv h
section
variable {D:List V2} (h:Oo D) {v:V2} (hv:∀r ∈ D,cr r v≠0)
include h hv
omit hv in
theorem AZ {i j:Nat}{a b:V2}(hi:D[i]?=some a)(hj:D[j]?=some b)(Nh:i<j):tY a b:=by
 obtain ⟨c,d⟩:=List.getElem?_eq_some_iff.1 hi
 obtain ⟨e,f⟩:=List.getElem?_eq_some_iff.1 hj
 have:=List.pairwise_iff_getElem.1 h.rM i j c e Nh
 rwa [d,f] at this
end
theorem Tj {r:V2}(h:nz r){c:Rat}(h1:c*r.1=0)(h2:c*r.2=0):c=0:=by
 rcases Rat.mul_eq_zero.1 h1 with e|e
 ·exact e
 ·rcases Rat.mul_eq_zero.1 h2 with a|a
  ·exact a
  ·unfold nz at h;grind
theorem sq_pos {u:V2}(h:nz u):dt u u>0:=by
 have a:∀x:Rat,x*x≥0:=fun x=>by
  by_cases b:x≥0
  ·exact mn b b
  ·have:=mn (show -x≥0 by grind) (show -x≥0 by grind);grind
 have:=a u.1
 have:=a u.2
 unfold dt
 by_cases c:u.1*u.1+u.2*u.2>0
 ·exact c
 ·unfold nz at h
  have d:u.1*u.1=0:=by grind
  have f:u.2*u.2=0:=by grind
  rcases Rat.mul_eq_zero.1 d with e|e<;>rcases Rat.mul_eq_zero.1 f with e'|e'<;>grind
def Ih (u w v':V2):Prop:=cr u w>0/\(∃a b:Rat,a>0/\b>0/\v'=MB a u b w)\/cr u w<=0/\∃a:Rat,a>0/\v'=MB a (TU u) 0 w
section
variable {D:List V2} (h:Oo D)
include h
end
theorem Rp {u w s:V2}(nu:nz u)(nw:nz w)(ns:nz s)(o:tY s u/\tY u w\/tY u w/\tY w s\/tY w s/\tY s u)
  (a:cr u s>0)(b:cr s w>0)(c:cr u w>0):False:=by
 have l:=Gh u w s
 have m:=Qa u w s
 have s1:=iq u s
 have s2:=iq s w
 rcases nT nu with hu|hu<;>rcases nT nw with hw|hw<;>rcases nT ns with hs|hs
 ·rcases o with ⟨p,q⟩|⟨p,q⟩|⟨p,q⟩
  ·have:=kv hs hu p;grind
  ·have:=kv hw hs q;grind
  ·have:=kv hw hs p;grind
 ·unfold up at hu hw
  unfold dn at hs
  have i:=mn (show cr u s≥0 by grind) (show w.2≥0 by grind)
  have j:=mn (show cr s w≥0 by grind) (show u.2≥0 by grind)
  have k:=mn (show cr u w≥0 by grind) (show -s.2≥0 by grind)
  have d:cr u s*w.2=0:=by grind
  have e:cr s w*u.2=0:=by grind
  have f:w.2=0:=by rcases Rat.mul_eq_zero.1 d with h|h<;>grind
  have g:u.2=0:=by rcases Rat.mul_eq_zero.1 e with h|h<;>grind
  unfold cr at c
  rw [f,g] at c
  grind
 ·rcases o with ⟨p,q⟩|⟨p,q⟩|⟨p,q⟩
  ·have:=kv hs hu p;grind
  ·exact fS hw hs q
  ·exact fS hw hs p
 ·rcases o with ⟨p,q⟩|⟨p,q⟩|⟨p,q⟩
  ·exact fS hs hu p
  ·have:=jo hw hs q;grind
  ·exact fS hs hu q
 ·rcases o with ⟨p,q⟩|⟨p,q⟩|⟨p,q⟩
  ·exact fS hu hw q
  ·exact fS hu hw p
  ·have:=kv hw hs p;grind
 ·rcases o with ⟨p,q⟩|⟨p,q⟩|⟨p,q⟩
  ·exact fS hu hw q
  ·exact fS hu hw p
  ·have:=jo hs hu q;grind
 ·unfold dn at hu hw
  unfold up at hs
  have i:=mn (show cr u s≥0 by grind) (show -w.2≥0 by grind)
  have j:=mn (show cr s w≥0 by grind) (show -u.2≥0 by grind)
  have k:=mn (show cr u w≥0 by grind) (show s.2≥0 by grind)
  have d:cr u s*w.2=0:=by grind
  have e:cr s w*u.2=0:=by grind
  have f:w.2=0:=by rcases Rat.mul_eq_zero.1 d with h|h<;>grind
  have g:u.2=0:=by rcases Rat.mul_eq_zero.1 e with h|h<;>grind
  unfold cr at c
  rw [f,g] at c
  grind
 ·rcases o with ⟨p,q⟩|⟨p,q⟩|⟨p,q⟩
  ·have:=jo hs hu p;grind
  ·have:=jo hw hs q;grind
  ·have:=jo hw hs p;grind
theorem Ov {u w s:V2}(nu:nz u)(nw:nz w)(ns:nz s)(o:tY s u/\tY u w\/tY u w/\tY w s\/tY w s/\tY s u)
  (a:cr u s>0)(c:cr u w<=0):False:=by
 have s1:=iq u s
 rcases nT nu with hu|hu<;>rcases nT ns with hs|hs
 ·rcases o with ⟨p,q⟩|⟨p,q⟩|⟨p,q⟩
  ·have:=kv hs hu p;grind
  ·rcases nT nw with hw|hw
   ·have:=kv hu hw p;grind
   ·exact fS hw hs q
  ·have:=kv hs hu q;grind
 ·rcases o with ⟨p,q⟩|⟨p,q⟩|⟨p,q⟩
  ·exact fS hs hu p
  ·rcases nT nw with hw|hw
   ·have:=kv hu hw p;grind
   ·exact b2 hu hs hw c (jo hw hs q) (by grind)
  ·exact fS hs hu q
 ·rcases o with ⟨p,q⟩|⟨p,q⟩|⟨p,q⟩
  ·rcases nT nw with hw|hw
   ·exact fS hu hw q
   ·have:=jo hu hw q;grind
  ·rcases nT nw with hw|hw
   ·exact fS hu hw p
   ·have:=jo hu hw p;grind
  ·rcases nT nw with hw|hw
   ·exact b4 hu hs hw c (kv hw hs p) (by grind)
   ·exact fS hw hs p
 ·rcases o with ⟨p,q⟩|⟨p,q⟩|⟨p,q⟩
  ·have:=jo hs hu p;grind
  ·rcases nT nw with hw|hw
   ·exact fS hu hw p
   ·have:=jo hu hw p;grind
  ·have:=jo hs hu q;grind
section
variable {D:List V2} (h:Oo D)
include h
theorem Vo {i k:Nat}{u w s:V2}(hi:D[i]?=some u)(hw:D[(i+1)%D.length]?=some w)(hk:D[k]?=some s)
  (n1:k≠i)(n2:k≠(i+1)%D.length):tY s u/\tY u w\/tY u w/\tY w s\/tY w s/\tY s u:=by
 have li:i<D.length:=(List.getElem?_eq_some_iff.1 hi).1
 have c:k<D.length:=(List.getElem?_eq_some_iff.1 hk).1
 by_cases b:i+1<D.length
 ·rw [Nat.mod_eq_of_lt b] at hw n2
  by_cases a:k<i
  ·exact .inl ⟨AZ h hk hi a,AZ h hi hw (by omega)⟩
  ·exact .inr (.inl ⟨AZ h hi hw (by omega),AZ h hw hk (by omega)⟩)
 ·have:i+1=D.length:=by omega
  rw [this,Nat.mod_self] at hw n2
  exact .inr (.inr ⟨AZ h hw hk (by omega),AZ h hk hi (by omega)⟩)
theorem QD {i:Nat}{u w v':V2}(hi:D[i]?=some u)(hw:D[(i+1)%D.length]?=some w)(hs:Ih u w v') :
  ∀r∈D,cr r v'≠0:=by
 intro r f z
 have hu:u∈D:=List.mem_of_getElem? hi
 have m:w∈D:=List.mem_of_getElem? hw
 have o:=sq_pos (h.nz u hu)
 have t:=sq_pos (h.nz r f)
 rcases hs with ⟨c,a,b,n,B,rfl⟩|⟨c,a,n,rfl⟩
 ·
  have key:∀s∈D,cr s (MB a u b w)=0->cr u s>0->False:=fun s hs z p=>by
   have s1:=iq u s
   rw [F2,s1] at z
   have q:cr s w>0:=by
    by_cases q:cr s w>0
    ·exact q
    ·have:=mp n p
     have:=mn (show b≥0 by grind) (show -(cr s w)≥0 by grind)
     grind
   obtain ⟨k,d⟩:=List.getElem?_of_mem hs
   refine Rp (h.nz u hu) (h.nz w m) (h.nz s hs) (Vo h hi hw d (fun e=>?_) (fun e=>?_)) p q c
   ·rw [e,hi] at d;cases d;unfold cr at p;grind
   ·rw [e,hw] at d;cases d;unfold cr at q;grind
  by_cases p:cr u r>0
  ·exact key r f z p
  ·obtain ⟨s,hs,g⟩:=h.cl r f
   obtain ⟨k,j,v,l⟩:=Cj g u
   obtain ⟨C,x,y,_⟩:=Cj g (MB a u b w)
   by_cases q:cr u r=0
   ·have s1:=iq u r
    rw [F2,s1,q] at z
    have:b*cr r w=0:=by grind
    have A:cr r w=0:=by rcases Rat.mul_eq_zero.1 this with e|e<;>grind
    have E:=Qa u w r
    have F:=Gh u w r
    have:=Tj (h.nz r f) (c:=cr u w) (by grind) (by grind)
    grind
   ·refine key s hs (by rw [y,z];grind) ?_
    rw [l]
    have:=mp j (show -(cr u r)>0 by grind)
    grind
 ·have key:∀s∈D,cr u s>0->False:=fun s hs p=>by
   obtain ⟨k,d⟩:=List.getElem?_of_mem hs
   refine Ov (h.nz u hu) (h.nz w m) (h.nz s hs) (Vo h hi hw d (fun e=>?_) (fun e=>?_)) p c
   ·rw [e,hi] at d;cases d;unfold cr at p;grind
   ·rw [e,hw] at d;cases d;grind
  rw [F2,PB] at z
  have d0:dt r u=0:=by
   have:a*dt r u=0:=by grind
   rcases Rat.mul_eq_zero.1 this with e|e<;>grind
  have G:cr u r≠0:=fun e=>by
   have:cr u r*cr u r+dt r u*dt r u=dt u u*dt r r:=by unfold cr dt;grind
   have:=mp o t
   grind
  by_cases p:cr u r>0
  ·exact key r f p
  ·obtain ⟨s,hs,g⟩:=h.cl r f
   obtain ⟨k,j,v,l⟩:=Cj g u
   refine key s hs ?_
   rw [l]
   have:=mp j (show -(cr u r)>0 by grind)
   grind
def Ug (D S:List V2):Prop:=(D=[]/\S=[(1,0)])\/D≠[]/\(∀x∈S,∃i u w,D[i]?=some u/\D[(i+1)%D.length]?=some w/\Ih u w x) /\
 ∀i u w,D[i]?=some u->D[(i+1)%D.length]?=some w->∃x∈S,Ih u w x
theorem N9 {S:List V2}(hS:Ug D S):∀x∈S,∀r∈D,cr r x≠0:=by
 rcases hS with ⟨rfl,rfl⟩|⟨_,d,_⟩
 ·intro x _ r e;cases e
 ·intro x f
  obtain ⟨i,u,w,a,b,c⟩:=d x f
  exact QD h a b c
end
end Go.Proofs.Tryz.ai
namespace Go.Proofs.Tryz
open Go.bM
def Dd (V:View)(g:Nat)(y:Value):Prop:=V.at ⟨g,0,none⟩ y
theorem Dd.le {V V':View}{g:Nat}{y:Value}(h:Dd V g y)(l:V.Le V'):Dd V' g y:=l.at h
def FA (y:Value):Prop:=∃a:Addr,y=.iface 294 (.pointer (some a))
section
open Go.RowKit Go.Extern.Stop Go.Stop Go.Extern
theorem IL (v:Value)(w:World):(Extern.ReflectliteType.typeOf #[.iface 294 v]).run prog w=.ok (.iface 198 (.agg #[.pointer (some ⟨5,294,none⟩)])) w:=by kernel_rfl
theorem yY (w : World) : ((Extern.ReflectliteType.method fun t => do Extern.Rtype.noPackHeld "Comparable" t; (fun a => Value.bool a.comparable) <$> typeInfo t) #[.agg #[.pointer (some ⟨5, 294, none⟩)]]).run prog w = .ok (.bool true) w := by kernel_rfl
theorem M4:(prog.info? 294).map (·.comparable)=some true:=by kernel_rfl
theorem M6:(prog.info? 319).map (·.size)=some 1:=by kernel_rfl
theorem oH (v : Value)(w : World) : (Go.method 435 198 v "Comparable").run prog w = .ok (257, v) w := by kernel_rfl
theorem M5 (a:Addr)(w:World) :
  Calls prog 17 #[.iface 294 (.pointer (some a)),.iface 294 (.pointer (some a))] w fun e w'=>e=.returned (.bool true)/\w'=w:=by
 obtain ⟨i,hi,hcmp⟩:=Option.map_eq_some_iff.1 M4
 obtain ⟨j,hj,hjs⟩:=Option.map_eq_some_iff.1 M6
 have h8:=@run_callFunc_extern prog 67 _ Extern.ReflectliteType.typeOf func67 (by kernel_rfl) (by kernel_rfl) (by kernel_rfl) (by kernel_rfl)
 have h32 := @run_callFunc_extern prog 257 _ (Extern.ReflectliteType.method fun t => do Extern.Rtype.noPackHeld "Comparable" t; pure (.bool (← typeInfo t).comparable)) func257 (by kernel_rfl) (by kernel_rfl) (by kernel_rfl) (by kernel_rfl)
 have tT:=IL
 have cT:=yY
 have mR:=oH
 have heq:=run_eql_iface_ptr_same (P:=prog) w a underlying47 underlying294 hi hcmp hj
 go_enter func17,ntmps17
 go_wp2
 refine wp_loop_rounds 1 ?_
 rw [rounds_succ]
 go_wp2
 go_ret
 exact ⟨rfl,rfl⟩
end
theorem FC {f:FuncId}{args:Array Value}{V:View}{v:Value}(hc:jm prog f)(h:Calls prog f args V.w fun e w'=>e=.returned v/\w'=V.w):ab prog f args V fun r _=>r=v:=
 ⟨hc,h.mono fun e w' ⟨a,b⟩=>by subst b;exact ⟨v,a,fq.refl _ _,rfl⟩⟩
theorem dD {V:View}{y:Value}(h:FA y):ab prog 17 #[y,y] V fun r _=>r=.bool true:=by
 obtain ⟨a,rfl⟩:=h
 exact FC ⟨f17,func17,rfl,by kernel_rfl⟩ (M5 a V.w)
end Go.Proofs.Tryz
namespace Go.bM
open Go.fR
theorem ay {x:Int}(h:-9223372036854775808<=x/\x<=9223372036854775807):i64.wrap x=x:=IntWalk.i64_in x h
theorem aM {x:Int}(h:0<=x/\x<=18446744073709551615):u64.wrap x=x:=IntWalk.u64_in x h
theorem q_ {x:Int}(h:0<=x/\x<=4294967295):u32.wrap x=x:=IntWalk.u32_in x h
theorem jd (x:Int):u32.wrap x=x%4294967296:=by rw [IntKind.wrap_u32]
theorem sN (x:Int):u64.wrap x=x%18446744073709551616:=by rw [IntKind.wrap_u64]
theorem mQ {x:Int}:x.fdiv (2^32)=x / 4294967296:=by rw [Int.fdiv_eq_ediv_of_nonneg _ (by decide)];rfl
theorem LS {x:Int}:x.fdiv (2^63)=x / 9223372036854775808:=by rw [Int.fdiv_eq_ediv_of_nonneg _ (by decide)];rfl
theorem Ep (a b:Nat)(ha:a<4294967296)(hb:b<4294967296):bB .or .u64 ((a:Int)*4294967296) (b:Int)=(a:Int)*4294967296+b:=by
 have c:((a:Int)*4294967296)=((a*2^32:Nat):Int):=by simp
 rw [bB,c,sN]
 have d:(BitVec.ofInt IntKind.u64.bits ((a*2^32:Nat):Int) ||| BitVec.ofInt IntKind.u64.bits (b:Int)).toNat=a*2^32+b:=by
  show (BitVec.ofInt 64 ((a*2^32:Nat):Int) ||| BitVec.ofInt 64 (b:Int)).toNat=_
  rw [BitVec.ofInt_natCast,BitVec.ofInt_natCast,BitVec.toNat_or,BitVec.toNat_ofNat,BitVec.toNat_ofNat,Nat.mod_eq_of_lt (by omega),Nat.mod_eq_of_lt (by omega)]
  have:=Nat.shiftLeft_add_eq_or_of_lt (b:=b) (i:=32) (by omega) a
  rw [Nat.shiftLeft_eq] at this
  exact this.symm
 rw [d]
 omega
def aD (ds:List Nat):List Value:=ds.map fun (d:Nat)=>Value.int .u32 (d:Int)
@[simp] theorem TV (ds:List Nat):(aD ds).length=ds.length:=by simp [aD]
theorem bE (ds:List Nat)(i x:Nat):(aD ds).set i (.int .u32 (x:Int))=aD (ds.set i x):=by simp [aD,List.map_set]
theorem dh (n:Nat):List.replicate n (Value.int .u32 0)=aD (List.replicate n 0):=by simp [aD]
theorem gQ {ds:List Nat}{i:Nat}(h:i<ds.length):(aD ds)[i]?=some (.int .u32 (ds[i]:Int)):=by simp [aD,h]
theorem Bm (ds:List Nat)(k:Nat):aD (ds.take k)=(aD ds).take k:=by simp [aD,List.map_take]
theorem Ju (ds:List Nat)(k:Nat):aD (ds.drop k)=(aD ds).drop k:=by simp [aD,List.map_drop]
theorem tQ (a b:List Nat):aD (a++b)=aD a++aD b:=by simp [aD]
theorem View.Le.sl {V V':View}(h:V.Le V'){a:OA}{xs:List Value}(hs:V.sl a xs):V'.sl a xs:=
 fun i v hv=>let ⟨ad,e,ha⟩:=hs i v hv;⟨ad,e,h.at ha⟩
structure RD (V:View) (p:OA) (n c:Nat) (ds:List Nat):Prop where
 len:n=ds.length
 cap:n<=c
 sl:V.sl p (aD ds)
 fo:bX ds
 Ld:p.isNone=true->c=0
theorem RD.le {V V':View}{p:OA}{n c:Nat}{ds:List Nat}(h:RD V p n c ds)(l:V.Le V'):RD V' p n c ds:=⟨h.len,h.cap,l.sl h.sl,h.fo,h.Ld⟩
theorem RD.nil {V:View}:RD V none 0 0 []:=⟨rfl,Nat.le_refl _,fun i v h=>by simp [aD] at h,bX.nil,fun _=>rfl⟩
theorem RD.take {V:View}{p:OA}{n c:Nat}{ds:List Nat}(h:RD V p n c ds){k:Nat}(hk:k<=n):RD V p k c (ds.take k):=by
 have:=h.len
 refine ⟨by simp;omega,by have:=h.cap;omega,fun i v hv=>h.sl i v ?_,h.fo.take k,h.Ld⟩
 rw [Bm] at hv
 rw [List.getElem?_take] at hv
 split at hv
 ·exact hv
 ·cases hv
theorem RD.rd {V:View}{p:OA}{n c:Nat}{ds:List Nat}(h:RD V p n c ds){i:Int}{K:Int->Prop}(j:Nat)(hj:i=j)(hn:j<ds.length)
  (hK:K ((ds[j]:Nat):Int)):(p.isSome=true)/\(0<=i/\i<(n:Int))/\∃x:Int,(∃a,ag p (i.toNat*1)=some a/\V.at a (.int .u32 x))/\K x:=by
 obtain ⟨b,e,d⟩:=h.sl j _ (gQ hn)
 have:=h.len
 subst hj
 refine ⟨by rw [e];rfl,⟨by omega,by omega⟩,_,⟨b.add j,?_,d⟩,hK⟩
 rw [e];simp [ag]
theorem gH {V:View}{b:Nat}{xs:List Value}{ty:TypeId}{m:Nat×Nat}(h:V.bI b (.cells xs.toArray ty m)){i:Nat}{v:Value}(hv:xs[i]?=some v):V.at ⟨b,i,none⟩ v:=by
 refine ⟨h.1,?_⟩
 unfold World.cell?
 rw [h.2]
 simpa using hv
theorem add_zero' (b i:Nat):(⟨b,0,none⟩:Addr).add i=⟨b,i,none⟩:=by
 unfold Addr.add
 split
 ·rename_i h;simp_all
 ·simp
theorem RD.bI {V:View}{b:Nat}{ds:List Nat}{ty:TypeId}{m:Nat×Nat}(h:V.bI b (.cells (aD ds).toArray ty m))(hd:bX ds){n c:Nat}(hn:n=ds.length)(hc:n<=c):RD V (some ⟨b,0,none⟩) n c ds:=
 ⟨hn,hc,fun i v hv=>⟨_,rfl,by rw [add_zero'];exact gH h hv⟩,hd,fun e=>nomatch e⟩
end Go.bM
namespace Go.fR
def bS (n:Nat):Nat:=if n=0 then 0 else n.log2+1
theorem qG (n:Nat):n<2^bS n:=by
 unfold bS;split
 ·subst_vars;decide
 ·exact Nat.lt_log2_self
theorem qE {n:Nat}(h:n≠0):2^(bS n-1)<=n:=by
 unfold bS;rw [if_neg h];exact Nat.log2_self_le h
theorem tu {n b:Nat}(h0:n<2^b)(h1:b=0\/2^(b-1)<=n):bS n=b:=by
 rcases h1 with h1|h1
 ·subst h1;have:n=0:=by simpa using h0
  subst this;rfl
 ·have a:n≠0:=by have:=Nat.two_pow_pos (b-1);omega
  have c:=qG n
  have d:=qE a
  have e:¬bS n<b:=fun h=>by have:=Nat.pow_le_pow_right (n:=2) (by omega) (show bS n<=b-1 by omega);omega
  have f:¬b<bS n:=fun h=>by have:=Nat.pow_le_pow_right (n:=2) (by omega) (show b<=bS n-1 by omega);omega
  omega
theorem jY {n b:Nat}:bS n<=b↔n<2^b:=by
 constructor
 ·intro h;exact Nat.lt_of_lt_of_le (qG n) (Nat.pow_le_pow_right (by omega) h)
 ·intro h
  rcases Nat.lt_or_ge b (bS n) with a|a
  ·have c:n≠0:=by intro e;subst e;simp [bS] at a
   have:=qE c
   have:=Nat.pow_le_pow_right (n:=2) (by omega) (show b<=bS n-1 by omega)
   omega
  ·exact a
theorem vx {n k:Nat}(h:2^k<=n):bS (n / 2^k)+k=bS n:=by
 have a:=Nat.two_pow_pos k
 have b:n / 2^k≠0:=by have:=Nat.div_pos h a;omega
 have c:=qG (n / 2^k)
 have d:=qE b
 refine (tu ?_ (.inr ?_)).symm
 ·rw [Nat.pow_add];exact (Nat.div_lt_iff_lt_mul a).1 c
 ·have e:0<bS (n / 2^k):=by unfold bS;rw [if_neg b];omega
  rw [show bS (n / 2^k)+k-1=bS (n / 2^k)-1+k from by omega,Nat.pow_add]
  exact (Nat.le_div_iff_mul_le a).1 d
end Go.fR
namespace Go.Proofs.Tryz
open Go.bM Go.fR
theorem gL (a k:Nat):((a:Nat):Int).fdiv (2^k)=((a / 2^k:Nat):Int):=by
 rw [Int.fdiv_eq_ediv_of_nonneg _ (by have:=Int.pow_pos (n:=2) (m:=k) (by omega);omega)]
 simp
def Nt:ByteArray:=⟨#[0,1,2,2,3,3,3,3,4,4,4,4,4,4,4,4,5,5,5,5,5,5,5,5,5,5,5,5,5,5,5,5,6,6,6,6,6,6,6,6,6,6,6,6,6,6,6,6,6,6,6,6,6,6,6,6,6,6,6,6,6,6,6,6,7,7,7,7,7,7,7,7,7,7,7,7,7,7,7,7,7,7,7,7,7,7,7,7,7,7,7,7,7,7,7,7,7,7,7,7,7,7,7,7,7,7,7,7,7,7,7,7,7,7,7,7,7,7,7,7,7,7,7,7,7,7,7,7,8,8,8,8,8,8,8,8,8,8,8,8,8,8,8,8,8,8,8,8,8,8,8,8,8,8,8,8,8,8,8,8,8,8,8,8,8,8,8,8,8,8,8,8,8,8,8,8,8,8,8,8,8,8,8,8,8,8,8,8,8,8,8,8,8,8,8,8,8,8,8,8,8,8,8,8,8,8,8,8,8,8,8,8,8,8,8,8,8,8,8,8,8,8,8,8,8,8,8,8,8,8,8,8,8,8,8,8,8,8,8,8,8,8,8,8,8,8,8,8,8,8,8,8,8,8,8,8]⟩
set_option maxRecDepth 10000 in
theorem MQ {V:View}(x:Nat)(hx:x<4294967296) :
  ab prog 225 #[.int .u32 (x:Int)] V fun r V'=>r=.int .i64 (bS x:Int):=by
 refine pP _ V _ ⟨fun z _=>∃y b:Nat,z=((y:Int),(b:Int))/\y<65536/\b<=16/\bS x=bS y+b,⟨fun a=>⟨by omega,?_⟩,fun a=>?_⟩,?_⟩
 ·rw [gL]
  have a:2^16<=x:=by simp at a;omega
  exact ⟨_,⟨rfl,rfl⟩,x / 2^16,16,rfl,by omega,by omega,(vx a).symm⟩
 ·exact ⟨_,⟨rfl,rfl⟩,x,0,rfl,by simp at a;omega,by omega,rfl⟩
 ·rintro _ h i ⟨y,b,rfl,d,f,e⟩
  rw [e];clear e
  refine ⟨by trivial,fun z _=>∃y' b':Nat,z=((y':Int),(b':Int))/\y'<256/\b'<=24/\bS y+b=bS y'+b',⟨fun a=>⟨by omega,?_⟩,fun a=>?_⟩,?_⟩
  ·dsimp only at a ⊢
   rw [gL]
   simp (disch:=omega) only [ay]
   have a:2^8<=y:=by simp at a;omega
   exact ⟨(((y / 2^8:Nat):Int),(b:Int)+8),⟨rfl,rfl⟩,y / 2^8,b+8,by simp,by omega,by omega,by have:=vx a;omega⟩
  ·exact ⟨_,⟨rfl,rfl⟩,y,b,rfl,by simp at a;omega,by omega,rfl⟩
  ·rintro _ V2 j ⟨y,b,rfl,d,f,e⟩
   rw [e];clear e
   have hw:IntKind.u8.wrap (y:Int)=y:=IntWalk.u8_in _ (by omega)
   dsimp only
   rw [hw]
   have c:(Nt.size:Int)=256:=rfl
   refine ⟨by trivial,⟨by omega,by show (y:Int)<(Nt.size:Int);rw [c];omega⟩,fun k l=>?_⟩
   show Value.int .i64 (i64.wrap (b+i64.wrap ((Nt.data.toList.getD (y:Int).toNat 0).toNat:Int)))=_
   congr 1
   have key:∀y:Nat,y<256->(Nt.data.toList.getD y 0).toNat=bS y:=by decide +kernel
   have g:bS y<=8:=jY.2 (by omega)
   have:=key y d
   rw [Int.toNat_natCast,this]
   simp (disch:=omega) only [ay]
   omega
theorem gX {V:View}(x:Nat)(hx:x<4294967296) :
  ab prog 203 #[.int .u32 (x:Int)] V fun r V'=>r=.int .i64 (32-(bS x:Int)):=by
 refine jg _ V _ fun b c=>(MQ x hx).mono ?_
 rintro r V2 d rfl
 have a:bS x<=32:=jY.2 (by omega)
 refine ⟨_,rfl,fun e f=>?_⟩
 simp (disch:=omega) only [ay]
theorem Hs (a:Nat)(ha:a<18446744073709551616):bB .and .u64 (a:Int) 4294967295=((a%4294967296:Nat):Int):=by
 rw [bB,sN]
 have b:(BitVec.ofInt IntKind.u64.bits ((a:Nat):Int) &&& BitVec.ofInt IntKind.u64.bits 4294967295).toNat=a%4294967296:=by
  show (BitVec.ofInt 64 ((a:Nat):Int) &&& BitVec.ofInt 64 ((4294967295:Nat):Int)).toNat=_
  rw [BitVec.ofInt_natCast,BitVec.ofInt_natCast,BitVec.toNat_and,BitVec.toNat_ofNat,BitVec.toNat_ofNat,Nat.mod_eq_of_lt (by omega),Nat.mod_eq_of_lt (by omega)]
  have:=Nat.and_two_pow_sub_one_eq_mod a 32
  exact this
 rw [b]
 omega
theorem Eh (a b c d:Nat)(ha:a<4294967296)(hb:b<4294967296)(hc:c<4294967296)(hd:d<4294967296) :
  a*c+(a*d+b*d / 4294967296) / 4294967296+((a*d+b*d / 4294967296)%4294967296+b*c) / 4294967296=(a*4294967296+b)*(c*4294967296+d) / 18446744073709551616 /\
  a*c<=18446744065119617025/\a*d<=18446744065119617025/\b*c<=18446744065119617025/\b*d<=18446744065119617025:=by
 have f:a*c<=4294967295*4294967295:=Nat.mul_le_mul (by omega) (by omega)
 have g:a*d<=4294967295*4294967295:=Nat.mul_le_mul (by omega) (by omega)
 have h:b*c<=4294967295*4294967295:=Nat.mul_le_mul (by omega) (by omega)
 have i:b*d<=4294967295*4294967295:=Nat.mul_le_mul (by omega) (by omega)
 have e:(a*4294967296+b)*(c*4294967296+d)=(a*c)*18446744073709551616+(a*d)*4294967296+(b*c)*4294967296+b*d:=by grind
 rw [e]
 generalize a*c=p at *
 generalize a*d=q at *
 generalize b*c=r at *
 generalize b*d=s at *
 refine ⟨by omega,by omega,by omega,by omega,by omega⟩
theorem MR {V:View}(x y:Nat)(hx:x<18446744073709551616)(hy:y<18446744073709551616) :
  ab prog 226 #[.int .u64 (x:Int),.int .u64 (y:Int)] V fun r V'=>r=.tuple #[.int .u64 ((x*y / 18446744073709551616:Nat):Int),.int .u64 ((x*y%18446744073709551616:Nat):Int)]:=by
 refine pQ _ _ V _ ⟨by omega,by omega,by omega,by omega,by omega,fun v w=>?_⟩
 have p:=Eh (x / 4294967296) (x%4294967296) (y / 4294967296) (y%4294967296) (by omega) (by omega) (by omega) (by omega)
 rw [Nat.div_add_mod' x 4294967296,Nat.div_add_mod' y 4294967296] at p
 obtain ⟨f,z,A,B,C⟩:=p
 have e:u64.wrap ((x:Int)*y)=((x*y%18446744073709551616:Nat):Int):=by rw [sN];simp
 rw [e,Hs x hx,Hs y hy,mQ,mQ]
 rw [←f]
 have g:((x:Int) / 4294967296)*((y:Int) / 4294967296)=((x / 4294967296*(y / 4294967296):Nat):Int):=by simp
 have h:((x:Int) / 4294967296)*((y%4294967296:Nat):Int)=((x / 4294967296*(y%4294967296):Nat):Int):=by simp
 have i:((x%4294967296:Nat):Int)*((y:Int) / 4294967296)=((x%4294967296*(y / 4294967296):Nat):Int):=by simp
 have j:((x%4294967296:Nat):Int)*((y%4294967296:Nat):Int)=((x%4294967296*(y%4294967296):Nat):Int):=by simp
 rw [g,h,i,j]
 generalize x / 4294967296*(y / 4294967296)=a at *
 generalize x / 4294967296*(y%4294967296)=b at *
 generalize x%4294967296*(y / 4294967296)=c at *
 generalize x%4294967296*(y%4294967296)=d at *
 simp only [mQ]
 have k:u64.wrap (d:Int)=d:=aM (by omega)
 have l:u64.wrap (b:Int)=b:=aM (by omega)
 have m:u64.wrap (c:Int)=c:=aM (by omega)
 have n:u64.wrap (a:Int)=a:=aM (by omega)
 rw [k,l,m,n]
 have o:u64.wrap ((b:Int)+d / 4294967296)=((b+d / 4294967296:Nat):Int):=by rw [aM (by omega)];omega
 rw [o,Hs _ (by omega)]
 have q:u64.wrap (((b+d / 4294967296)%4294967296:Nat)+(c:Int))=(((b+d / 4294967296)%4294967296+c:Nat):Int):=by rw [aM (by omega)];omega
 rw [q]
 have s:x*y / 18446744073709551616<18446744073709551616:=by
  have:x*y<18446744073709551616*18446744073709551616:=Nat.mul_lt_mul'' hx hy
  omega
 have t:u64.wrap ((a:Int)+((b+d / 4294967296:Nat):Int) / 4294967296)=((a+(b+d / 4294967296) / 4294967296:Nat):Int):=by
  rw [aM (by omega)];omega
 rw [t]
 have u:u64.wrap (((a+(b+d / 4294967296) / 4294967296:Nat):Int)+(((b+d / 4294967296)%4294967296+c:Nat):Int) / 4294967296)=((a+(b+d / 4294967296) / 4294967296+((b+d / 4294967296)%4294967296+c) / 4294967296:Nat):Int):=by
  rw [aM (by omega)];omega
 rw [u]
theorem MO {V:View}(x y c:Nat)(hx:x<4294967296)(hy:y<4294967296)(hc:c<4294967296) :
  ab prog 200 #[.int .u32 (x:Int),.int .u32 (y:Int),.int .u32 (c:Int)] V fun r V'=>r=.tuple #[.int .u32 (((x+y+c)%4294967296:Nat):Int),.int .u32 (((x+y+c) / 4294967296:Nat):Int)]:=by
 refine pN _ _ _ V _ ⟨by omega,fun d e=>?_⟩
 simp (disch:=omega) only [aM,jd,mQ]
 have a:((x:Int)+y+c)%4294967296=(((x+y+c)%4294967296:Nat):Int):=by omega
 have b:((x:Int)+y+c) / 4294967296%4294967296=(((x+y+c) / 4294967296:Nat):Int):=by omega
 rw [a,b]
theorem Ou (a b:Nat)(ha:a<4294967296)(hb:b<4294967296):bB .and .u32 (a:Int) (b:Int)=((a &&& b:Nat):Int):=by
 have c:(BitVec.ofInt IntKind.u32.bits ((a:Nat):Int) &&& BitVec.ofInt IntKind.u32.bits ((b:Nat):Int)).toNat=a &&& b:=by
  show (BitVec.ofInt 32 ((a:Nat):Int) &&& BitVec.ofInt 32 ((b:Nat):Int)).toNat=_
  rw [BitVec.ofInt_natCast,BitVec.ofInt_natCast,BitVec.toNat_and,BitVec.toNat_ofNat,BitVec.toNat_ofNat,Nat.mod_eq_of_lt (by omega),Nat.mod_eq_of_lt (by omega)]
 have d:a &&& b<2^32:=Nat.and_lt_two_pow a (by omega)
 rw [bB,jd,c]
 omega
theorem Xp (a b:Nat)(ha:a<4294967296)(hb:b<4294967296):bB .or .u32 (a:Int) (b:Int)=((a ||| b:Nat):Int):=by
 have c:(BitVec.ofInt IntKind.u32.bits ((a:Nat):Int) ||| BitVec.ofInt IntKind.u32.bits ((b:Nat):Int)).toNat=a ||| b:=by
  show (BitVec.ofInt 32 ((a:Nat):Int) ||| BitVec.ofInt 32 ((b:Nat):Int)).toNat=_
  rw [BitVec.ofInt_natCast,BitVec.ofInt_natCast,BitVec.toNat_or,BitVec.toNat_ofNat,BitVec.toNat_ofNat,Nat.mod_eq_of_lt (by omega),Nat.mod_eq_of_lt (by omega)]
 have d:a ||| b<2^32:=Nat.or_lt_two_pow (by omega) (by omega)
 rw [bB,jd,c]
 omega
theorem Mq (a b:Nat)(ha:a<4294967296)(hb:b<4294967296):bB .xor .u32 (a:Int) (b:Int)=((a ^^^ b:Nat):Int):=by
 have c:(BitVec.ofInt IntKind.u32.bits ((a:Nat):Int) ^^^ BitVec.ofInt IntKind.u32.bits ((b:Nat):Int)).toNat=a ^^^ b:=by
  show (BitVec.ofInt 32 ((a:Nat):Int) ^^^ BitVec.ofInt 32 ((b:Nat):Int)).toNat=_
  rw [BitVec.ofInt_natCast,BitVec.ofInt_natCast,BitVec.toNat_xor,BitVec.toNat_ofNat,BitVec.toNat_ofNat,Nat.mod_eq_of_lt (by omega),Nat.mod_eq_of_lt (by omega)]
 have d:a ^^^ b<2^32:=Nat.xor_lt_two_pow (by omega) (by omega)
 rw [bB,jd,c]
 omega
theorem TT {n:Nat}(h:n<4294967296):n / 2147483648=if n.testBit 31 then 1 else 0:=by
 rw [Nat.testBit_eq_decide_div_mod_eq]
 have:(2:Nat)^31=2147483648:=by decide
 rw [this]
 split
 ·rename_i a;simp at a;omega
 ·rename_i a;simp at a;omega
theorem Hv {n:Nat}(h:n<4294967296):n.testBit 31=decide (2147483648<=n):=by
 rw [Nat.testBit_eq_decide_div_mod_eq]
 have:(2:Nat)^31=2147483648:=by decide
 rw [this]
 congr 1
 simp;omega
theorem JW (x y c:Nat)(hx:x<4294967296)(hy:y<4294967296)(hc:c<=1){d:Nat}(hd:(d:Int)=((x:Int)-y-c)%4294967296) :
  (((4294967295 ^^^ x) &&& y) ||| ((4294967295 ^^^ (x ^^^ y)) &&& d)) / 2147483648=if x<y+c then 1 else 0:=by
 have k:(4294967295 ^^^ x)<2^32:=Nat.xor_lt_two_pow (by omega) (by omega)
 have b:x ^^^ y<2^32:=Nat.xor_lt_two_pow (by omega) (by omega)
 have l:(4294967295 ^^^ (x ^^^ y))<2^32:=Nat.xor_lt_two_pow (by omega) b
 have e:(4294967295 ^^^ x) &&& y<2^32:=Nat.and_lt_two_pow _ (by omega)
 have f:(4294967295 ^^^ (x ^^^ y)) &&& d<2^32:=Nat.and_lt_two_pow _ (by omega)
 have g:=Nat.or_lt_two_pow e f
 rw [TT g]
 have a:d<4294967296:=by omega
 rw [Nat.testBit_or,Nat.testBit_and,Nat.testBit_and,Nat.testBit_xor,Nat.testBit_xor,Nat.testBit_xor,Hv hx,Hv hy,Hv a,Hv (n:=4294967295) (by omega)]
 by_cases h:2147483648<=x<;>by_cases i:2147483648<=y<;>by_cases j:2147483648<=d<;>simp [h,i,j]<;>omega
theorem MU {V:View}(x y c:Nat)(hx:x<4294967296)(hy:y<4294967296)(hc:c<=1) :
  ab prog 201 #[.int .u32 (x:Int),.int .u32 (y:Int),.int .u32 (c:Int)] V fun r V'=>∃d b:Nat,r=.tuple #[.int .u32 (d:Int),.int .u32 (b:Int)]/\d<4294967296/\b<=1/\d+(y+c)=x+4294967296*b:=by
 refine pR _ _ _ V _ ⟨by omega,fun n o=>?_⟩
 obtain ⟨d,g⟩:∃d:Nat,(d:Int)=((x:Int)-y-c)%4294967296:=⟨(((x:Int)-y-c)%4294967296).toNat,by omega⟩
 have a:d<4294967296:=by omega
 have h:u32.wrap (u32.wrap ((x:Int)-y)-c)=(d:Int):=by rw [jd,jd];omega
 have i:IntKind.u32.max=((4294967295:Nat):Int):=rfl
 have j:(4294967295 ^^^ x)<2^32:=Nat.xor_lt_two_pow (by omega) (by omega)
 have f:x ^^^ y<2^32:=Nat.xor_lt_two_pow (by omega) (by omega)
 have k:(4294967295 ^^^ (x ^^^ y))<2^32:=Nat.xor_lt_two_pow (by omega) f
 have l:(4294967295 ^^^ x) &&& y<2^32:=Nat.and_lt_two_pow _ (by omega)
 have m:(4294967295 ^^^ (x ^^^ y)) &&& d<2^32:=Nat.and_lt_two_pow _ (by omega)
 rw [h,i,Mq _ _ (by omega) hx,Ou _ _ j hy,Mq _ _ hx hy,Mq _ _ (by omega) f,Ou _ _ k a,Xp _ _ l m,gL]
 have e:(2:Nat)^31=2147483648:=by decide
 rw [e,JW x y c hx hy hc g]
 refine ⟨d,_,rfl,a,?_,?_⟩
 ·split<;>omega
 ·split<;>omega
theorem MP {V:View}(hi lo y:Nat)(hh:hi<y)(hl:lo<4294967296)(hy:y<4294967296) :
  ab prog 172 #[.int .u32 (hi:Int),.int .u32 (lo:Int),.int .u32 (y:Int)] V fun r V'=>r=.tuple #[.int .u32 (((hi*4294967296+lo) / y:Nat):Int),.int .u32 (((hi*4294967296+lo)%y:Nat):Int)]:=by
 have key:∀b:View,Value.tuple #[.int .u32 (u32.wrap (u64.wrap ((bB .or .u64 (u64.wrap ((u64.wrap (hi:Int))*2^32)) (u64.wrap (lo:Int))).tdiv (u64.wrap (y:Int))))),.int .u32 (u32.wrap ((bB .or .u64 (u64.wrap ((u64.wrap (hi:Int))*2^32)) (u64.wrap (lo:Int))).tmod (u64.wrap (y:Int))))]=.tuple #[.int .u32 (((hi*4294967296+lo) / y:Nat):Int),.int .u32 (((hi*4294967296+lo)%y:Nat):Int)]:=by
  intro _
  have c:((2:Int)^32)=4294967296:=by decide
  have d:u64.wrap (hi:Int)=hi:=aM (by omega)
  have e:u64.wrap (lo:Int)=lo:=aM (by omega)
  have a:u64.wrap (y:Int)=y:=aM (by omega)
  have f:u64.wrap ((hi:Int)*4294967296)=(hi:Int)*4294967296:=aM (by omega)
  rw [d,c,f,e,a,Ep _ _ (by omega) hl]
  have g:(hi:Int)*4294967296+lo=((hi*4294967296+lo:Nat):Int):=by omega
  rw [g,←Int.ofNat_tdiv,←Int.ofNat_tmod]
  have m:(hi*4294967296+lo) / y<4294967296:=by
   rw [Nat.div_lt_iff_lt_mul (by omega)]
   have:(hi+1)*4294967296<=y*4294967296:=Nat.mul_le_mul_right _ hh
   omega
  have n:(hi*4294967296+lo)%y<y:=Nat.mod_lt _ (by omega)
  generalize (hi*4294967296+lo) / y=q at *
  generalize (hi*4294967296+lo)%y=r at *
  have i:u64.wrap (q:Int)=q:=aM (by omega)
  have j:u32.wrap (q:Int)=q:=q_ (by omega)
  have k:u32.wrap (r:Int)=r:=q_ (by omega)
  rw [i,j,k]
 have a:u64.wrap (y:Int)=y:=aM (by omega)
 refine pO _ _ _ V _ ⟨fun _=>⟨fun h=>?_,fun _=>⟨by omega,by rw [a];omega,by rw [a];omega,fun b l=>key b⟩⟩,fun _=>⟨by omega,by rw [a];omega,by rw [a];omega,fun b l=>key b⟩⟩
 simp at h;omega
theorem aV {V:View}{p:OA}{n c:Nat}{ds:List Nat}(h:RD V p n c ds)(hm:ds.length<=4611686018427387904) :
  ab prog 218 #[.slice p n c] V fun r V'=>∃k,r=.slice p k c/\RD V' p k c (cj ds):=by
 refine E8 p n c V _ ?_
 refine ⟨fun z V'=>z.1=p/\z.2.2=c/\z.2.1<=ds.length/\cj (ds.take z.2.1)=cj ds/\RD V' p z.2.1 c (ds.take z.2.1),fun z=>z.2.1,⟨(p,n,c),⟨rfl,rfl,rfl⟩,rfl,rfl,?_⟩,?_⟩
 ·have:=h.len;subst this;simp;exact h
 ·rintro ⟨q,k,i⟩ l m ⟨rfl,rfl,j,e,d⟩
  dsimp only at j e d ⊢
  refine ⟨rfl,fun a=>?_,fun a=>?_⟩
  ·have a:0<k:=by simpa using a
   simp (disch:=omega) only [ay]
   have o:(ds.take k).length=k:=by simp;omega
   have f:ds.take k=ds.take (k-1)++[ds[k-1]]:=by rw [←List.take_succ_eq_append_getElem (by omega),Nat.sub_add_cancel a]
   refine d.rd (k-1) (by omega) (by omega) ⟨fun b=>?_,fun b=>?_⟩
   ·have b:ds[k-1]=0:=by simpa using b
    refine ⟨⟨by omega,by have:=d.cap;omega⟩,(q,k-1,i),by dsimp only;omega,⟨rfl,by dsimp only;omega,rfl⟩,rfl,rfl,by dsimp only;omega,?_,?_⟩
    ·dsimp only
     rw [←e,f,b,iP]
    ·have:=d.take (k:=k-1) (by omega)
     dsimp only
     rwa [List.take_take,Nat.min_eq_left (by omega)] at this
   ·have b:ds[k-1]≠0:=by simpa using b
    refine fun V2 g=>⟨k,rfl,?_⟩
    rw [←e,f,pJ _ _ b,←f]
    exact d.le g
  ·have a:k=0:=by simpa using a
   subst a
   refine fun V2 g=>⟨0,rfl,?_⟩
   rw [←e]
   exact d.le g
theorem nj {V:View}{p:OA}{n c:Nat}{ds:List Nat}(h:RD V p n c ds)(hm:ds.length<=1099511627776) :
  ab prog 217 #[.slice p n c] V fun r V'=>∃q k c',r=.slice q k c'/\RD V' q k c' ds:=by
 have f:=h.len
 refine uF p n c V _ ⟨fun a l m=>⟨_,_,_,rfl,?_⟩,fun a=>⟨aD ds,h.sl,by simp [f],by omega,by omega,by simp,by simp [f],?_,?_⟩⟩
 ·have a:p=none:=by simpa using a
  subst a
  have:ds=[]:=by
   rcases Nat.eq_zero_or_pos ds.length with e|e
   ·exact List.length_eq_zero_iff.1 e
   ·obtain ⟨o,e,-⟩:=h.sl 0 _ (gQ e)
    cases e
  subst this;exact RD.nil
 ·intro v hv
  simp only [aD,List.mem_map] at hv
  obtain ⟨d,-,rfl⟩:=hv
  rfl
 ·intro s J sp c' g t l m b j
  refine ⟨_,_,_,rfl,?_⟩
  simp only [Nat.zero_add,Nat.zero_mul,List.take_zero,List.nil_append] at j g ⊢
  exact ⟨f,g,fun i v hv=>⟨_,rfl,by rw [add_zero'];exact gH j (by rw [List.getElem?_append_left (by rcases Nat.lt_or_ge i (aD ds).length with e|e;exact e;rw [List.getElem?_eq_none e] at hv;cases hv)];exact hv)⟩,h.fo,fun e=>nomatch e⟩
abbrev RN (V:View)(p:OA)(n c:Nat)(x:Nat):Prop:=RD V p n c (ah x)
theorem jx {V:View}{p:OA}{n c:Nat}{ds:List Nat}(h:RD V p n c ds)(hm:ds.length<=1099511627776) :
  ab prog 188 #[.slice p n c] V fun r V'=>∃q k c',r=.slice q k c'/\RN V' q k c' (val ds):=by
 refine E4 p n c V _ fun g a=>(aV (h.le a) (by omega)).mono ?_
 rintro r V2 i ⟨k,rfl,b⟩
 refine ⟨_,_,_,rfl,fun j d=>(nj (b.le d) (by have:=lE ds;omega)).mono ?_⟩
 rintro r l m ⟨q,o,c',rfl,e⟩
 refine ⟨_,_,_,rfl,fun s f=>⟨_,_,_,rfl,?_⟩⟩
 unfold RN
 rw [←aO h.fo]
 exact e.le f
theorem BI {V:View}{p:OA}{n c:Nat}{ds:List Nat}(h:RD V p n c ds)(hm:ds.length<=1099511627776) :
  ab prog 206 #[.slice p n c] V fun r V'=>r=.bool (decide (ah (val ds)=ds)):=by
 have d:=h.len
 refine zL p n c V _ ⟨fun a e f=>?_,fun a=>?_⟩
 ·have:ds=[]:=List.length_eq_zero_iff.1 (by simp at a;omega)
  subst this;rfl
 ·have a:0<n:=by simp at a;omega
  simp (disch:=omega) only [ay]
  refine h.rd (n-1) (by omega) (by omega) fun e f=>?_
  congr 1
  rw [Bool.eq_iff_iff]
  simp only [bne_iff_ne,ne_eq,decide_eq_true_eq]
  subst d
  constructor
  ·intro b
   exact vR h.fo (Ej fun _=>by simpa using b)
  ·intro he b
   have:tX ds:=by rw [←he];exact jH _
   exact this.last (by omega) (by simpa using b)
theorem eG {V:View}(u:Int)(h0:0<=u)(h1:u<18446744073709551616) :
  ab prog 189 #[.int .u64 u] V fun r V'=>∃q k c',r=.slice q k c'/\RN V' q k c' u.toNat:=by
 obtain ⟨u,rfl⟩:=Int.eq_ofNat_of_zero_le h0
 refine ux _ V _ ⟨by omega,fun e h f a=>?_⟩
 rw [mQ,jd,q_ (by omega)] at a
 have a:e.bI f (.cells (aD [u%4294967296,u / 4294967296]).toArray 188 (0,0)):=by
  simpa [aD] using a
 have d:bX [u%4294967296,u / 4294967296]:=by simp [bX];omega
 refine (aV (RD.bI a d (n:=2) (c:=2) rfl (Nat.le_refl _)) (by simp)).mono ?_
 rintro r V2 i ⟨k,rfl,b⟩
 refine ⟨_,_,_,rfl,fun _ j g=>⟨_,_,_,rfl,?_⟩⟩
 rw [aO d] at b
 have:val [u%4294967296,u / 4294967296]=(u:Int).toNat:=by simp;omega
 rw [this] at b
 exact b.le g
theorem Av {V:View}{p q:OA}{n c m e:Nat}{xa xb:List Nat}(ha:RD V p n c xa)(hb:RD V q m e xb)(hm:xa.length<=1099511627776)(hn:xb.length<=1099511627776) :
  ab prog 230 #[.slice p n c,.slice q m e] V fun r V'=>r=.int .i64 (kZ (val xa) (val xb)):=by
 have la:=lE xa
 have lb:=lE xb
 refine G1 p n c q m e V _ fun J w=>(aV (ha.le w) (by omega)).mono ?_
 rintro r V2 D ⟨n,rfl,g⟩
 refine ⟨_,_,_,rfl,fun K A=>(aV (hb.le (w.trans (D.trans A))) (by omega)).mono ?_⟩
 rintro r L E ⟨m,rfl,j⟩
 refine ⟨_,_,_,rfl,?_⟩
 replace g:=g.le (A.trans E)
 rw [aO ha.fo] at g la
 rw [aO hb.fo] at j lb
 generalize val xa=x at *
 generalize val xb=y at *
 have F:=g.len
 have G:=j.len
 refine ⟨fun h=>⟨fun d B C=>?_,fun d B C=>?_⟩,fun h=>?_⟩
 ·have:=ll (a:=x) (b:=y) (by simp at d;omega)
  rw [kZ,if_pos this]
 ·have:=ll (a:=y) (b:=x) (by simp at h d;omega)
  rw [kZ,if_neg (by omega),if_pos this]
 ·have h:n=m:=by simp at h;omega
  subst h
  simp (disch:=omega) only [ay]
  refine ⟨fun z V'=>-1<=z/\z<n/\(ah x).drop (z+1).toNat=(ah y).drop (z+1).toNat,fun z=>(z+1).toNat,⟨_,by (try dsimp only);and_intros<;>trivial,by (try dsimp only);omega,by (try dsimp only);omega,?_⟩,?_⟩
  ·(try dsimp only)
   rw [List.drop_of_length_le (by omega),List.drop_of_length_le (by omega)]
  ·rintro i M k ⟨o,s,t⟩
   dsimp only at o s t ⊢
   refine ⟨by trivial,fun d=>?_,fun d B C=>?_⟩
   ·have d:0<=i:=by simpa using d
    obtain ⟨i,rfl⟩:=Int.eq_ofNat_of_zero_le d
    simp (disch:=omega) only [ay]
    have f:(ah x).drop (i+1)=(ah y).drop (i+1):=t
    refine (g.le k).rd i rfl (by omega) ((j.le k).rd i rfl (by omega) ⟨fun u H I=>?_,fun u=>?_⟩)
    ·have:=kh (aE x) (by omega) (by omega) f (by simpa using u)
     rw [ae,ae] at this
     rw [kZ,if_pos this]
    ·refine (g.le k).rd i rfl (by omega) ((j.le k).rd i rfl (by omega) ⟨fun v H I=>?_,fun v=>?_⟩)
     ·have:=kh (aE y) (by omega) (by omega) f.symm (by simpa using v)
      rw [ae,ae] at this
      rw [kZ,if_neg (by omega),if_pos this]
     ·refine ⟨_,?_,by (try dsimp only);and_intros<;>trivial,?_,?_,?_⟩
      ·(try dsimp only);omega
      ·(try dsimp only);omega
      ·(try dsimp only);omega
      ·(try dsimp only)
       have:((i:Int)-1+1).toNat=i:=by omega
       rw [this,List.drop_eq_getElem_cons (by omega),List.drop_eq_getElem_cons (l:=ah y) (by omega),f]
       congr 1
       simp at u v
       omega
   ·have d:i=-1:=by simp at d;omega
    subst d
    have:ah x=ah y:=by simpa using t
    have:=qm this
    subst this
    simp [kZ]
theorem vh {E A B c d x y W:Nat}(h:E+W*c=A+B)(hd:d=c+x+y):E+W*(d%4294967296)+W*4294967296*(d / 4294967296)=A+W*x+(B+W*y):=by
 have a:W*(d%4294967296)+W*4294967296*(d / 4294967296)=W*d:=by
  rw [Nat.mul_assoc,←Nat.mul_add,Nat.mod_add_div]
 rw [Nat.add_assoc,a,hd,Nat.mul_add,Nat.mul_add]
 omega
theorem Iw {V:View}{p q:OA}{n c m e:Nat}{xa xb:List Nat}(ha:RD V p n c xa)(hb:RD V q m e xb)(hm:xa.length<=1099511627776)(hn:xb.length<=1099511627776) :
  ab prog 228 #[.slice p n c,.slice q m e] V fun r V'=>∃p' n' c',r=.slice p' n' c'/\RN V' p' n' c' (val xa+val xb):=by
 have A:=ha.len
 have B:=hb.len
 refine G0 p n c q m e V _ ⟨fun z V'=>∃xs b,RD V' z.1 z.2.1 z.2.2.1 xs/\RD V' z.2.2.2.1 z.2.2.2.2.1 z.2.2.2.2.2 b/\b.length<=xs.length/\xs.length<=1099511627776/\val xs+val b=val xa+val xb,⟨fun C=>?_,fun C=>?_⟩,?_⟩
 ·exact ⟨(_,_,_,_,_,_),by (try dsimp only);and_intros<;>trivial,xb,xa,hb,ha,by simp at C;omega,hn,by omega⟩
 ·exact ⟨(_,_,_,_,_,_),by (try dsimp only);and_intros<;>trivial,xa,xb,ha,hb,by simp at C;omega,hm,rfl⟩
 ·rintro ⟨p,n,c,q,m,e⟩ N O ⟨xs,b,w,x,P,hm,hv⟩
  dsimp only at w x ⊢
  rw [←hv]
  clear hv ha hb A B
  have K:=w.len
  have Q:=x.len
  simp (disch:=omega) only [ay,dh]
  have D:((n:Int)+1).toNat=n+1:=by omega
  rw [D]
  refine ⟨by trivial,by omega,by omega,by omega,fun z V'=>0<=z.1/\z.1<=1/\0<=z.2.1/\z.2.1<=n/\∃es:List Nat,z.2.2=aD es/\es.length=n+1/\bX es /\
   val (es.take z.2.1.toNat)+4294967296^z.2.1.toNat*z.1.toNat=val (xs.take z.2.1.toNat)+val (b.take z.2.1.toNat),fun z=>n-z.2.1.toNat,⟨(0,0,aD (List.replicate (n+1) 0)),by (try dsimp only);and_intros<;>trivial,by (try dsimp only);omega,by (try dsimp only);omega,by (try dsimp only);omega,by (try dsimp only);omega,_,rfl,by simp,bX.rep _,by simp⟩,?_⟩
  rintro ⟨f,i,R⟩ V2 J ⟨l,E,o,F,es,rfl,G,s,hv⟩
  dsimp only at l E o F hv ⊢
  obtain ⟨i,rfl⟩:=Int.eq_ofNat_of_zero_le o
  obtain ⟨f,rfl⟩:=Int.eq_ofNat_of_zero_le l
  simp only [Int.toNat_natCast] at hv
  refine ⟨by trivial,fun j=>?_,fun j=>?_⟩
  ·have j:i<n:=by simpa using j
   refine (w.le J).rd i rfl (by omega) ?_
   have S:=w.fo.get (i:=i) (by omega)
   have next:∀d:Nat,d<8589934592->val (es.take i)+4294967296^i*(d%4294967296)+4294967296^i*4294967296*(d / 4294967296)=val (xs.take (i+1))+val (b.take (i+1)) ->
     ∃a:List Nat,(aD es).set i (.int .u32 ((d%4294967296:Nat):Int))=aD a/\a.length=n+1/\bX a /\
     val (a.take (i+1))+4294967296^(i+1)*(d / 4294967296)=val (xs.take (i+1))+val (b.take (i+1)):=by
    intro d T he
    refine ⟨es.set i (d%4294967296),bE _ _ _,by simpa using G,s.set _ _ (by omega),?_⟩
    rw [aK _ _ _ (by omega),Nat.pow_succ]
    exact he
   refine ⟨fun g=>?_,fun g=>?_⟩
   ·have g:i<m:=by simpa using g
    refine (x.le J).rd i rfl (by omega) ?_
    have L:=x.fo.get (i:=i) (by omega)
    simp (disch:=omega) only [aM,ay,jd,mQ]
    refine ⟨⟨by omega,by omega⟩,by simp;omega,by omega,(_,_,_),?_,by (try dsimp only);and_intros<;>trivial,?_⟩
    ·(try dsimp only);omega
    ·(try dsimp only)
     have h:((i:Int)+1).toNat=i+1:=by omega
     obtain ⟨a,t,u,H,I⟩:=next (f+xs[i]+b[i]) (by omega) (by rw [ax _ _ (by omega),ax _ _ (by omega)];exact vh hv rfl)
     refine ⟨by omega,by omega,by omega,by omega,a,?_,u,H,?_⟩
     ·rw [←t];simp
     ·rw [h,←I];congr 2
   ·have g:m<=i:=by simpa using g
    simp (disch:=omega) only [aM,ay,jd,mQ]
    refine ⟨⟨by omega,by omega⟩,by simp;omega,by omega,(_,_,_),?_,by (try dsimp only);and_intros<;>trivial,?_⟩
    ·(try dsimp only);omega
    ·(try dsimp only)
     have h:((i:Int)+1).toNat=i+1:=by omega
     obtain ⟨a,t,u,H,I⟩:=next (f+xs[i]) (by omega) (by
      rw [ax _ _ (by omega),aq (ds:=b) (i:=i+1) (by omega)]
      have:=vh (y:=0) hv (d:=f+xs[i]) rfl
      rwa [aq (ds:=b) (by omega),Nat.mul_zero,Nat.add_zero] at this)
     refine ⟨by omega,by omega,by omega,by omega,a,?_,u,H,?_⟩
     ·rw [←t];simp
     ·rw [h,←I];congr 2
  ·have j:i=n:=by simp at j;omega
   subst j
   simp (disch:=omega) only [q_]
   refine ⟨⟨by omega,by omega⟩,by simp;omega,fun U W X hb=>?_⟩
   have t:(aD es).set (0+((i:Int).toNat)*1) (.int .u32 (f:Int))=aD (es.set i f):=by rw [←bE];simp
   rw [t] at hb
   have v:=s.set i f (by omega)
   refine (aV (RD.bI hb v (n:=i+1) (c:=i+1) (by simp;omega) (Nat.le_refl _)) (by simp;omega)).mono ?_
   rintro r Y Z ⟨k,rfl,g⟩
   refine ⟨_,_,_,rfl,fun _ V5 M=>⟨_,_,_,rfl,?_⟩⟩
   rw [aO v] at g
   have u:val (es.set i f)=val xs+val b:=by
    have:=aK es i f (by omega)
    rw [aq (by simp;omega)] at this
    rw [this,hv,aq (by omega),aq (by omega)]
   rw [u] at g
   exact g.le M
theorem LZ {E A B c x y W:Nat}(h:E+B=A+W*c){v:Int}(hc:c<=1)(hx:x<4294967296)(hy:y<4294967296)(hv:v=((x:Int)-(c+y))%18446744073709551616) :
  0<=v/\v / 9223372036854775808<=1/\0<=v / 9223372036854775808/\E+W*(v%4294967296).toNat+(B+W*y)=A+W*x+W*4294967296*(v / 9223372036854775808).toNat:=by
 rcases Nat.lt_or_ge x (c+y) with d|d
 ·have e:v=18446744073709551616+(x:Int)-(c+y):=by omega
  have a:(v / 9223372036854775808).toNat=1:=by omega
  have b:(v%4294967296).toNat+(c+y)=x+4294967296:=by omega
  refine ⟨by omega,by omega,by omega,?_⟩
  rw [a,Nat.mul_one]
  have:=congrArg (W*·) b
  simp only [Nat.mul_add] at this
  omega
 ·have e:v=(x:Int)-(c+y):=by omega
  have a:(v / 9223372036854775808).toNat=0:=by omega
  have b:(v%4294967296).toNat+(c+y)=x:=by omega
  refine ⟨by omega,by omega,by omega,?_⟩
  rw [a,Nat.mul_zero,Nat.add_zero]
  have:=congrArg (W*·) b
  simp only [Nat.mul_add] at this
  omega
theorem FN {V:View}{p q:OA}{n c m e:Nat}{xs ys:List Nat}(hx:RD V p n c xs)(hy:RD V q m e ys)(hm:xs.length<=1099511627776)(hl:ys.length<=xs.length)(hle:val ys<=val xs) :
  ab prog 234 #[.slice p n c,.slice q m e] V fun r V'=>∃p' n' c',r=.slice p' n' c'/\RN V' p' n' c' (val xs-val ys):=by
 have C:=hx.len
 have N:=hy.len
 refine E6 p n c q m e V _ ⟨by omega,by omega,by omega,fun z V'=>0<=z.1/\z.1<=1/\0<=z.2.1/\z.2.1<=n/\∃es:List Nat,z.2.2=aD es/\es.length=n/\bX es /\
   val (es.take z.2.1.toNat)+val (ys.take z.2.1.toNat)=val (xs.take z.2.1.toNat)+4294967296^z.2.1.toNat*z.1.toNat,fun z=>n-z.2.1.toNat,
   ⟨(0,0,List.replicate n (.int .u32 0)),by (try dsimp only);and_intros<;>trivial,by (try dsimp only);omega,by (try dsimp only);omega,by (try dsimp only);omega,by (try dsimp only);omega,List.replicate n 0,dh n,by simp,bX.rep _,by simp⟩,?_⟩
 rintro ⟨j,i,O⟩ V2 A ⟨l,s,o,u,es,rfl,d,a,hv⟩
 dsimp only at l s o u hv ⊢
 obtain ⟨i,rfl⟩:=Int.eq_ofNat_of_zero_le o
 obtain ⟨j,rfl⟩:=Int.eq_ofNat_of_zero_le l
 simp only [Int.toNat_natCast] at hv
 refine ⟨by trivial,fun f=>?_,fun f=>?_⟩
 ·have f:i<n:=by simpa using f
  refine (hx.le A).rd i rfl (by omega) ?_
  have D:=hx.fo.get (i:=i) (by omega)
  refine ⟨fun z V'=>∃y:Nat,z=j+y/\y<4294967296/\val (ys.take (i+1))=val (ys.take i)+4294967296^i*y,⟨fun b=>?_,fun b=>?_⟩,?_⟩
  ·have b:i<m:=by simpa using b
   refine (hy.le A).rd i rfl (by omega) ?_
   have g:=hy.fo.get (i:=i) (by omega)
   simp (disch:=omega) only [aM]
   exact ⟨_,by (try dsimp only);and_intros<;>trivial,ys[i],rfl,g,ax _ _ (by omega)⟩
  ·have b:m<=i:=by simpa using b
   exact ⟨_,by (try dsimp only);and_intros<;>trivial,0,by simp,by omega,by rw [aq (by omega),aq (by omega)];simp⟩
  ·rintro t E F ⟨y,rfl,g,w⟩
   refine ⟨by trivial,⟨by omega,by simpa using f⟩,by simp;omega,by omega,?_⟩
   simp (disch:=omega) only [aM,ay,sN,jd,LS]
   obtain ⟨v,B⟩:∃v:Int,v=((xs[i]:Int)-((j:Int)+(y:Int)))%18446744073709551616:=⟨_,rfl⟩
   obtain ⟨P,G,H,I⟩:=LZ hv (by omega) D g B
   rw [←B]
   refine ⟨(_,_,_),?_,by (try dsimp only);and_intros<;>trivial,?_⟩
   ·(try dsimp only);omega
   ·(try dsimp only)
    have x:((i:Int)+1).toNat=i+1:=by omega
    refine ⟨H,G,by omega,by omega,es.set i (v%4294967296).toNat,?_,by simpa using d,a.set _ _ (by omega),?_⟩
    ·rw [←bE]
     congr 2
     ·simp
     ·omega
    ·rw [x,aK _ _ _ (by omega),w,I,ax _ _ (by omega),Nat.pow_succ]
 ·have f:i=n:=by simp at f;omega
  subst f
  intro E F Q J
  refine (aV (RD.bI J a (n:=i) (c:=i) d.symm (Nat.le_refl _)) (by omega)).mono ?_
  rintro r R S ⟨k,rfl,b⟩
  refine ⟨_,_,_,rfl,fun _ T K=>⟨_,_,_,rfl,?_⟩⟩
  rw [aO a] at b
  rw [aq (by omega),aq (by omega),aq (by omega)] at hv
  have L:=gS a
  rw [d] at L
  have M:j=0:=by
   rcases Nat.eq_zero_or_pos j with h|h
   ·exact h
   ·have:4294967296^i*1<=4294967296^i*j:=Nat.mul_le_mul_left _ h
    omega
  subst M
  rw [show val es=val xs-val ys from by omega] at b
  exact b.le K
theorem gK {a b:Nat}:kZ a b<0↔a<b:=by
 unfold kZ
 split
 ·simp;omega
 ·split<;>simp<;>omega
theorem k_ {a b:Nat}:kZ a b=0↔a=b:=by
 unfold kZ
 split
 ·simp;omega
 ·split
  ·simp;omega
  ·simp;omega
theorem Ay {V:View}{p q:OA}{n c m e:Nat}{xa xb:List Nat}(ha:RD V p n c xa)(hb:RD V q m e xb)(hm:xa.length<=1099511627776)(hn:xb.length<=1099511627776) :
  ab prog 229 #[.slice p n c,.slice q m e] V fun r V'=>∃p' n' c',r=.tuple #[.slice p' n' c',.bool (decide (val xb<=val xa))]/\RN V' p' n' c' (val xa-val xb):=by
 refine G6 p n c q m e V _ fun u b=>(Av (ha.le b) (hb.le b) hm hn).mono ?_
 rintro r V2 f rfl
 refine ⟨_,rfl,fun a l d=>?_,fun a l d=>?_⟩
 ·have a:val xa<val xb:=by simpa [gK] using a
  rw [Nat.sub_eq_zero_of_le (by omega),decide_eq_false (by omega)]
  exact ⟨_,_,_,rfl,RD.nil⟩
 ·have a:val xb<=val xa:=by simpa [←Int.not_lt,gK] using a
  rw [decide_eq_true a]
  refine (aV ((ha.le b).le (f.trans d)) (by omega)).mono ?_
  rintro r v o ⟨w,rfl,g⟩
  refine ⟨_,_,_,rfl,fun x h=>(aV ((hb.le b).le (f.trans (d.trans (o.trans h)))) (by omega)).mono ?_⟩
  rintro r y s ⟨z,rfl,i⟩
  rw [aO ha.fo] at g
  rw [aO hb.fo] at i
  have:=bg ha.fo
  refine ⟨_,_,_,rfl,fun A j=>(FN (g.le (h.trans (s.trans j))) (i.le j) (by omega) (aH a) (by rw [ae,ae];exact a)).mono ?_⟩
  rintro r B C ⟨p',n',c',rfl,k⟩
  rw [ae,ae] at k
  exact ⟨_,_,_,rfl,fun D t=>⟨_,_,_,rfl,k.le t⟩⟩
theorem Lp (a b:Nat)(ha:a<4294967296)(hb:b<4294967296):bB .or .u64 (b:Int) ((a:Int)*4294967296)=(b:Int)+(a:Int)*4294967296:=by
 have h:bB .or .u64 (b:Int) ((a:Int)*4294967296)=bB .or .u64 ((a:Int)*4294967296) (b:Int):=by
  simp only [bB,BitVec.or_comm]
 rw [h,Ep a b ha hb];omega
theorem To (b:Nat)(hb:b<4294967296):bB .or .u64 0 (b:Int)=b:=by
 have:=Ep 0 b (by omega) hb
 simpa using this
theorem lW {V:View}{p:OA}{n c:Nat}{ds:List Nat}(h:RD V p n c ds)(hm:ds.length<=1099511627776) :
  ab prog 221 #[.slice p n c] V fun r V'=>r=.tuple #[.int .u64 ((if val ds<18446744073709551616 then val ds else 0:Nat):Int),.bool (decide (val ds<18446744073709551616))]:=by
 refine E5 p n c V _ fun y q=>(aV (h.le q) (by omega)).mono ?_
 rintro r V2 A ⟨n,rfl,e⟩
 rw [aO h.fo] at e
 generalize val ds=x at *
 have B:=e.len
 have C:(ah x).length<=2↔x<18446744073709551616:=aF (k:=2)
 refine ⟨_,_,_,rfl,fun a D E=>?_,fun a=>?_⟩
 ·have a:¬x<18446744073709551616:=by simp at a;omega
  rw [if_neg a,decide_eq_false a];rfl
 ·have m:x<18446744073709551616:=by simp at a;omega
  rw [if_pos m,decide_eq_true m]
  have F:n<=2:=by omega
  refine ⟨fun z V'=>0<=z.2/\z.2<=n/\z.1=(val ((ah x).take z.2.toNat):Int),fun z=>n-z.2.toNat,⟨(0,0),by (try dsimp only);and_intros<;>trivial,by (try dsimp only);omega,by (try dsimp only);omega,by simp⟩,?_⟩
  rintro ⟨u,i⟩ G s ⟨d,f,hu⟩
  dsimp only at d f hu ⊢
  subst hu
  obtain ⟨i,rfl⟩:=Int.eq_ofNat_of_zero_le d
  simp only [Int.toNat_natCast]
  refine ⟨by trivial,fun b=>?_,fun b H I=>?_⟩
  ·have b:i<n:=by simpa using b
   refine (e.le s).rd i rfl (by omega) ?_
   have o:=(aE x).get (i:=i) (by omega)
   simp (disch:=omega) only [ay]
   refine ⟨by omega,(_,_),?_,by (try dsimp only);and_intros<;>trivial,?_⟩
   ·(try dsimp only);omega
   ·(try dsimp only)
    refine ⟨by omega,by omega,?_⟩
    have g:((i:Int)+1).toNat=i+1:=by omega
    rw [g,ax _ _ (by omega)]
    have t:i=0\/i=1:=by omega
    rcases t with rfl|rfl
    ·simp (disch:=omega) only [aM]
     have j:(min ((32:Int)*((0:Nat):Int)).toNat IntKind.u64.bits)=0:=by decide
     rw [j]
     simp (disch:=omega) only [aM,Int.pow_zero,Int.mul_one,List.take_zero,fg,Nat.pow_zero,Nat.one_mul,Nat.zero_add]
     exact To _ o
    ·have j:(min ((32:Int)*((1:Nat):Int)).toNat IntKind.u64.bits)=32:=by decide
     have a:0<(ah x).length:=by omega
     have l:=(aE x).get (i:=0) a
     have v:(ah x).take 1=[(ah x)[0]]:=by rw [List.take_succ_eq_append_getElem a];rfl
     have w:((2:Int)^32)=4294967296:=by decide
     rw [j,v,w]
     simp (disch:=omega) only [aM]
     simp only [bo,fg,Nat.mul_zero,Nat.add_zero]
     rw [Lp _ _ o l]
     omega
  ·have b:i=n:=by simp at b;omega
   subst b
   rw [aq (by omega),ae]
theorem jw {V:View}{p:OA}{n c:Nat}{ds:List Nat}(h:RD V p n c ds)(hm:ds.length<=1099511627776) :
  ab prog 216 #[.slice p n c] V fun r V'=>r=.int .i64 (bS (val ds):Int):=by
 have k:=bg h.fo
 refine E3 p n c V _ fun t l=>(aV (h.le l) (by omega)).mono ?_
 rintro r V2 u ⟨n,rfl,g⟩
 rw [aO h.fo] at g
 generalize val ds=x at *
 have m:=g.len
 refine ⟨_,_,_,rfl,fun f v w=>?_,fun f=>?_⟩
 ·have:ah x=[]:=List.length_eq_zero_iff.1 (by simp at f;omega)
  have:=bC.1 this
  subst this;rfl
 ·have f:0<n:=by simp at f;omega
  simp (disch:=omega) only [ay]
  refine g.rd (n-1) (by omega) (by omega) fun y z=>(gX _ ((aE x).get (by omega))).mono ?_
  rintro r A B rfl
  refine ⟨_,rfl,fun C D=>?_⟩
  have E:=(aE x).get (i:=n-1) (by omega)
  have a:(ah x)[n-1]≠0:=by
   have:=(jH x).last (by omega)
   simpa [m] using this
  have F:bS (ah x)[n-1]<=32:=jY.2 (by omega)
  simp (disch:=omega) only [ay]
  have key:bS x=32*(n-1)+bS (ah x)[n-1]:=by
   have e:=ic (ah x) (n-1) (by omega)
   rw [ae,List.drop_of_length_le (by omega)] at e
   simp only [fg,Nat.mul_zero,Nat.add_zero] at e
   have b:=gS ((aE x).take (n-1))
   rw [List.length_take,Nat.min_eq_left (by omega)] at b
   have j:(4294967296:Nat)^(n-1)=2^(32*(n-1)):=by rw [Nat.pow_mul]
   rw [j] at e b
   generalize (ah x)[n-1]=d at *
   have o:=qG d
   have q:=qE a
   have s:0<bS d:=by unfold bS;rw [if_neg a];omega
   refine tu ?_ (.inr ?_)
   ·rw [Nat.pow_add]
    have:2^(32*(n-1))*(d+1)<=2^(32*(n-1))*2^bS d:=Nat.mul_le_mul_left _ o
    rw [Nat.mul_add,Nat.mul_one] at this
    omega
   ·rw [show 32*(n-1)+bS d-1=32*(n-1)+(bS d-1) from by omega,Nat.pow_add]
    have:2^(32*(n-1))*2^(bS d-1)<=2^(32*(n-1))*d:=Nat.mul_le_mul_left _ q
    omega
  rw [key]
  congr 1
  omega
theorem Ei {E S c t x y e Y B D:Nat}(h:E+B*D*c=S+B*x*Y)(ht:t=c+x*y+e) :
  E+B*D*(t%4294967296)+B*D*4294967296*(t / 4294967296)=S+B*D*e+B*x*(Y+D*y):=by
 have a:B*D*(t%4294967296)+B*D*4294967296*(t / 4294967296)=B*D*t:=by
  rw [Nat.mul_assoc (B*D),←Nat.mul_add,Nat.mod_add_div]
 rw [Nat.add_assoc,a,ht]
 grind
theorem g_ {V:View}{p q:OA}{n c m e:Nat}{xa xb:List Nat}(ha:RD V p n c xa)(hb:RD V q m e xb)(hm:xa.length+xb.length<=1099511627776) :
  ab prog 209 #[.slice p n c,.slice q m e] V fun r V'=>∃p' n' c',r=.slice p' n' c'/\RN V' p' n' c' (val xa*val xb):=by
 have la:=bg ha.fo
 have lb:=bg hb.fo
 refine G3 p n c q m e V _ fun V1 L=>(aV (ha.le L) (by omega)).mono ?_
 rintro r V2 S ⟨n,rfl,o⟩
 rw [aO ha.fo] at o
 refine ⟨_,_,_,rfl,fun V3 M=>(aV (hb.le (L.trans (S.trans M))) (by omega)).mono ?_⟩
 rintro r V4 T ⟨m,rfl,B⟩
 rw [aO hb.fo] at B
 replace o:=o.le (M.trans T)
 have U:=o.len
 have AR:=B.len
 have N:val xa=val (ah (val xa)):=(ae _).symm
 have O:val xb=val (ah (val xb)):=(ae _).symm
 rw [N,O]
 clear N O
 generalize ah (val xa)=xs at *
 generalize ah (val xb)=ys at *
 refine ⟨_,_,_,rfl,?_⟩
 simp (disch:=omega) only [ay,dh]
 have D:((n:Int)+m).toNat=n+m:=by omega
 rw [D]
 refine ⟨by omega,by omega,by omega,fun z V'=>0<=z.1/\z.1<=n/\∃es:List Nat,z.2=aD es/\es.length=n+m/\bX es /\
  val (es.take (z.1.toNat+m))=val (xs.take z.1.toNat)*val ys,fun z=>n-z.1.toNat,⟨(0,aD (List.replicate (n+m) 0)),by (try dsimp only);and_intros<;>trivial,by (try dsimp only);omega,by (try dsimp only);omega,_,rfl,by simp,bX.rep _,by simp [u_,List.take_replicate]⟩,?_⟩
 rintro ⟨i,W⟩ V5 P ⟨u,E,es,rfl,F,g,hv⟩
 dsimp only at u E hv ⊢
 obtain ⟨i,rfl⟩:=Int.eq_ofNat_of_zero_le u
 simp only [Int.toNat_natCast] at hv
 refine ⟨by trivial,fun s=>?_,fun s=>?_⟩
 ·have s:i<n:=by simpa using s
  refine (o.le P).rd i rfl (by omega) ?_
  have yy:=o.fo.get (i:=i) (by omega)
  refine ⟨fun z V'=>0<=z.1/\z.1<=4294967295/\0<=z.2.1/\z.2.1<=m/\∃a:List Nat,z.2.2=aD a/\a.length=n+m/\bX a/\a.drop (i+z.2.1.toNat)=es.drop (i+z.2.1.toNat) /\
   val (a.take (i+z.2.1.toNat))+4294967296^(i+z.2.1.toNat)*z.1.toNat=val (es.take (i+z.2.1.toNat))+4294967296^i*xs[i]*val (ys.take z.2.1.toNat),fun z=>m-z.2.1.toNat,
   ⟨(0,0,aD es),by (try dsimp only);and_intros<;>trivial,by (try dsimp only);omega,by (try dsimp only);omega,by (try dsimp only);omega,by (try dsimp only);omega,es,rfl,F,g,rfl,by simp⟩,?_⟩
  rintro ⟨C,k,W⟩ X Q ⟨v,G,w,H,a,rfl,y,h,f,hw⟩
  dsimp only at v G w H f hw ⊢
  obtain ⟨k,rfl⟩:=Int.eq_ofNat_of_zero_le w
  obtain ⟨C,rfl⟩:=Int.eq_ofNat_of_zero_le v
  simp only [Int.toNat_natCast] at f hw
  refine ⟨by trivial,fun d=>?_,fun d=>?_⟩
  ·have d:k<m:=by simpa using d
   refine (B.le (P.trans Q)).rd k rfl (by omega) ?_
   have Y:=B.fo.get (i:=k) (by omega)
   have Wv:=h.get (i:=i+k) (by omega)
   have I:a[i+k]'(by omega)=es[i+k]'(by omega):=by
    have R:a[i+k]?=es[i+k]?:=by
     have:=congrArg (fun l=>l[0]?) f
     simpa [List.getElem?_drop] using this
    rw [List.getElem?_eq_getElem (by omega),List.getElem?_eq_getElem (by omega)] at R
    exact Option.some.inj R
   simp (disch:=omega) only [ay]
   have j:((i:Int)+k).toNat=i+k:=by omega
   rw [j]
   refine ⟨⟨by omega,by omega⟩,((a[i+k]'(by omega):Nat):Int),by rw [Nat.zero_add,Nat.mul_one];exact gQ (by omega),⟨by omega,by omega⟩,by simp;omega,by omega,?_⟩
   have Z:xs[i]*ys[k]<=4294967295*4294967295:=Nat.mul_le_mul (by omega) (by omega)
   have P8:(xs[i]:Int)*(ys[k]:Int)=((xs[i]*ys[k]:Nat):Int):=by simp
   obtain ⟨t,ht⟩:∃t:Nat,t=C+xs[i]*ys[k]+a[i+k]'(by omega):=⟨_,rfl⟩
   rw [Nat.pow_add] at hw
   have b:=Ei hw ht
   have e1:u64.wrap ((C:Int)+u64.wrap (u64.wrap (u64.wrap (xs[i]:Int)*u64.wrap (ys[k]:Int))+u64.wrap ((a[i+k]'(by omega):Nat):Int)))=(t:Int):=by
    clear b
    generalize xs[i]*ys[k]=pq at *
    rw [aM (x:=(xs[i]:Int)) (by omega),aM (x:=(ys[k]:Int)) (by omega),P8,aM (x:=((pq:Nat):Int)) (by omega)]
    simp (disch:=omega) only [aM]
    omega
   rw [e1,jd,mQ]
   refine ⟨(_,_,_),?_,by (try dsimp only);and_intros<;>trivial,?_⟩
   ·(try dsimp only);omega
   ·(try dsimp only)
    have A:((k:Int)+1).toNat=k+1:=by omega
    refine ⟨by omega,by omega,by omega,by omega,a.set (i+k) (t%4294967296),?_,by simpa using y,h.set _ _ (by omega),?_,?_⟩
    ·rw [←bE];simp
    ·rw [A,List.drop_set_of_lt (by omega)]
     have:=congrArg (List.drop 1) f
     simpa [List.drop_drop,Nat.add_comm,Nat.add_assoc,Nat.add_left_comm] using this
    ·rw [A,show i+(k+1)=i+k+1 from by omega,aK _ _ _ (by omega),ax es (i+k) (by omega),ax ys k (by omega),←I,Nat.pow_succ]
     have e2:((t:Int) / 4294967296).toNat=t / 4294967296:=by omega
     rw [e2,Nat.pow_add,b]
  ·have d:k=m:=by simp at d;omega
   subst d
   simp (disch:=omega) only [ay]
   have j:((i:Int)+k).toNat=i+k:=by omega
   rw [j]
   refine ⟨⟨by omega,by omega⟩,by simp;omega,(_,_),?_,by (try dsimp only);and_intros<;>trivial,?_⟩
   ·(try dsimp only);omega
   ·(try dsimp only)
    have J:((i:Int)+1).toNat=i+1:=by omega
    refine ⟨by omega,by omega,a.set (i+k) C,?_,by simpa using y,h.set _ _ (by omega),?_⟩
    ·rw [←bE,q_ (by omega)];simp
    ·rw [J,show i+1+k=i+k+1 from by omega,aK _ _ _ (by omega),hw,hv,ax xs i (by omega),aq (ds:=ys) (by omega)]
     grind
 ·have s:i=n:=by simp at s;omega
  subst s
  intro X Q bk K
  refine (aV (RD.bI K g (n:=i+m) (c:=i+m) (by omega) (Nat.le_refl _)) (by omega)).mono ?_
  rintro r V7 l7 ⟨k,rfl,d⟩
  refine ⟨_,_,_,rfl,fun _ V8 l8=>⟨_,_,_,rfl,?_⟩⟩
  rw [aO g] at d
  rw [aq (by omega),aq (by omega)] at hv
  rw [hv] at d
  exact d.le l8
end Go.Proofs.Tryz
