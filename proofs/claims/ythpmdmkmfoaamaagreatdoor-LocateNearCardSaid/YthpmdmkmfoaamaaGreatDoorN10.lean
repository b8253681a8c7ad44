import Derived.Test.YthpmdmkmfoaamaaGreatDoorN5
import Derived.Test.YthpmdmkmfoaamaaGreatDoorCards
import Derived.Test.YthpmdmkmfoaamaaGreatDoorTie
import Derived.WalkKit
import Derived.ProofKit
import Derived.OpenShut
import Derived.Deep.DeepHandedRow
import Derived.LaidLaws
import Derived.Lay
import Derived.Carry
import Derived.LaidEql
import Derived.Stop.Asserts
import Derived.RowKitTokens
import Derived.IntWalk
import Derived.Test.YthpmdmkmfoaamaaGreatDoorN6
set_option linter.unusedVariables false
open Go.IntKind (i64 u64 u32)
namespace Go.Proofs.YthpmdmkmfoaamaaGreatDoor
open Go.ChangeShapes Go.WideShapes Go.ChangeAt Go.RowKit Go.bL
theorem own:ownKnob Tryz.prog.godebug=none:=by kernel_rfl
theorem star : "*" ++ "errors.errorString" = "*errors.errorString" := by decide
theorem Ts (u : TypeId)(h : Tryz.prog.typeName? 3 u = some "*errors.errorString") : u = 315 :=
 typeName_ptr_named (nm := "errors.errorString") (by rw [star]; kernel_rfl) (by kernel_rfl) (by decide) u (by rw [star]; exact h)
theorem KW:Tryz.prog.cellsOf 339=1:=by kernel_rfl
theorem KX:Tryz.prog.cellsOf 9=1:=by kernel_rfl
theorem Tq (g:Nat):MemPlace.cell g 0∈MemPlace.row ⟨g,0,none⟩ 1:=by simp [MemPlace.row]
theorem JZ {P:Program}{W:World}{name:String}{g:Nat}{v:Value}(hg:P.globalNamed name=some g)(h:W.var? P name=some #[v]):W.cell? ⟨g,0,none⟩=some v:=by simpa using World.var?_cell hg h 0
set_option maxRecDepth 100000 in
theorem Ab {W:World}{l:List (String×DataW Unit)}{name:String}{text:List UInt8}{g:Nat}(hg:Tryz.prog.globalNamed name=some g)(hty:(Tryz.prog.globals[g]?).map (·.type)=some 37)
  (hm : (name, .iface "*errors.errorString" (.ptr (.agg [.lit (.string text)]))) ∈ l)(h : laidMet Tryz.prog l W) :
  ∃a,W.cell? ⟨g,0,none⟩=some (.iface 315 (.pointer (some a))):=by
 obtain ⟨ps,hv,-,hrows⟩:=h
 induction l generalizing ps with
 | nil=>cases hm
 | cons x r ih=>
  obtain ⟨n,d⟩:=x
  obtain ⟨g',t,cs,fuel,p,q,hg',Br,hvar,hd,hr,rfl⟩:=hv
  rcases List.mem_cons.1 hm with e|hm
  ·cases e
   obtain rfl:=Option.some.inj (hg.symm.trans hg')
   obtain rfl:=Option.some.inj (hty.symm.trans Br)
   obtain ⟨l0⟩:=cs
   have ok0:∀u v,l0=[.iface u v]->Value.okWide Tryz.prog W .any 0 u v:=fun u v e=>by
    subst e
    exact (hrows g 0 (List.mem_append_left _ (List.mem_append_left _ (Tq g)))).2 u v (JZ hg hvar)
   obtain ⟨a,s,rfl,-⟩:=errorString_of_trod Tryz.underlying37 Ts Tryz.underlying315 Tryz.underlying339 rfl rfl Tryz.underlying9 KW KX hd ok0
   exact ⟨a,JZ hg hvar⟩
  ·exact ih hm q hr fun b off hb=>hrows b off (List.mem_append_right _ hb)
def View.all (W:World):View:=⟨W,fun _=>False,fun _=>False,fun _ h=>h.elim,fun _ h=>h⟩
theorem Bx {w w':World}(h:iJ (fun _=>False) w w')(may:MemPlace->Prop):w.keptBut w' may:=by
 refine ⟨h.os,h.out,fun i hi=>?_⟩
 rw [h.bF i hi (fun h=>h)]
 cases w.heap[i]? with
 | none=>rfl
 | some o=>cases o<;>simp
theorem wM {f:FuncId}{args:Array Value}{W:World}{R:Value->Prop}(h:ab Tryz.prog f args (View.all W) fun r _=>R r):Calls Tryz.prog f args W fun e w'=>∃r,e=.returned r/\R r/\iJ (fun _=>False) W w':=
 h.2.mono fun e w' ⟨r,he,hx,hr⟩=>⟨r,he,hr,hx⟩
theorem laidOut:laidOutB Tryz.prog=true:=by kernel_rfl
theorem yU {w w':World}(h:iJ (fun _=>False) w w'):Below w.heap.size w w':=⟨h.os,h.tape,h.out,h.size,fun k hk=>h.bF k hk (fun h=>h)⟩
theorem EK {P:Program}(hlo:laidOutB P=true){H:Type}{enc:TypeId×Value->H}{W W':World}(hb:Below W.heap.size W W')(ts:List TypeId):∀{vs:List Value} {ds:List (DataW H)} {ps:List MemPlace},
  (ts.all fun t=>P.readableRec t&&decide (t<P.types.size))=true->DataW.TrodAll enc P W 0 (fun _=>true) true ts vs ds ps->(∀x∈ps,x.block<W.heap.size) ->
   DataW.TrodAll enc P W' 0 (fun b=>decide (b<W.heap.size)) true ts vs ds ps:=by
 induction ts with
 | nil=>
  intro vs ds ps _ h _
  obtain ⟨rfl,rfl,rfl⟩:=trodAll_nil h
  exact trodAll_mk0
 | cons t ts ih=>
  intro vs ds ps ht h hlt
  obtain ⟨v,vs',d,ds',p,q,rfl,rfl,rfl,h1,h2⟩:=trodAll_cons h
  simp only [List.all_cons,Bool.and_eq_true,decide_eq_true_eq] at ht
  exact trodAll_cons_mk (Below.trod hlo ht.1.1 ht.1.2 h1 hb fun x hx=>hlt x (List.mem_append_left _ hx)) (ih ht.2 h2 fun x hx=>hlt x (List.mem_append_right _ hx))
set_option maxRecDepth 100000 in
theorem Jb {H:Type}{enc:TypeId×Value->H}{UH:FuncId}{f:Func}{s:ChangeSpec}{W:World}{args:Array Value}{ds gs:List (DataW H)}{before:List MemPlace}{fresh handsOn:Bool}
  (hW:DataW.Whole enc Tryz.prog f.params.toList s.vars false W args.toList ds gs before)(hvars:s.vars=[])(hts:(f.params.toList.all fun t=>Tryz.prog.readableRec t&&decide (t<Tryz.prog.types.size))=true)
  (hres:f.resultTypes=#[4])(hs:s.fn H (ds++gs)={ results:=[.lit (.bool true)],args:=ds })
  (h:ab Tryz.prog UH args (View.all W) fun r _=>r=.bool true):Calls Tryz.prog UH args W fun e W'=>∃v,e=.returned v/\s.post enc Tryz.prog f false fresh handsOn false W args v W':=by
 refine (wM h).mono fun e W' ⟨r,he,hr,hx⟩=>?_
 subst he hr
 have hW':=hW
 obtain ⟨p,q,hA,hV,rfl,-,-⟩:=hW
 rw [hvars] at hV
 obtain ⟨rfl,rfl⟩:=trodVars_none hV
 have hlt:∀x∈p++[],x.block<W.heap.size:=fun x hx=>hW'.lt x hx
 refine ⟨_,rfl,ds,_,p++[],[],p++[],[],hW',?_,?_,?_,Bx hx _,fun h=>nomatch h⟩
 ·rw [hs,hres]
  exact trodAll_cons_mk (shut_bool Tryz.underlying4 _) trodAll_mk0
 ·rw [hs,List.append_nil]
  exact EK laidOut (yU hx) _ hts hA fun x hx=>hlt x (by rw [List.append_nil];exact hx)
 ·rw [hs,hvars]
  rfl
set_option maxRecDepth 100000 in
theorem BT {H:Type}{enc:TypeId×Value->H}{W:World}{p:OA}{n c:Nat}{d:DataW H}{ps:List MemPlace}
  (h:DataW.Trod enc Tryz.prog W 0 (fun _=>true) true 22 (.slice p n c) d ps):n<=c/\∀i,i<n->∃(a:Addr)(x:Int),ah p (i*1)=some a/\(View.all W).at a (.int .i64 x):=by
 obtain ⟨fuel,hf⟩:=h
 rcases open_ints Tryz.underlying22 Tryz.underlying3 (show Tryz.prog.cellsOf 3=1 by kernel_rfl) hf with ⟨hcs,-⟩|⟨a,len',cap',zs,hcs,_,hl,-,hz,-,hcell,-⟩
 ·simp [Value.cells] at hcs
  obtain ⟨rfl,rfl,rfl⟩:=hcs
  exact ⟨Nat.le_refl _,fun i hi=>absurd hi (by omega)⟩
 ·simp [Value.cells] at hcs
  obtain ⟨rfl,rfl,rfl⟩:=hcs
  simp only [if_true] at hz
  exact ⟨hl,fun i hi=>⟨a.add i,_,by rw [Nat.mul_one];rfl,fun h=>h,hcell i (by omega)⟩⟩
end Go.Proofs.YthpmdmkmfoaamaaGreatDoor
namespace Go.fN
def val:List Nat->Nat
 | []=>0
 | d::r=>d+4294967296*val r
def bW (ds:List Nat):Prop:=∀d∈ds,d<4294967296
def cd:List Nat->List Nat
 | []=>[]
 | d::r=>if cd r=[]/\d=0 then [] else d::cd r
def sI (ds:List Nat):Prop:=cd ds=ds
def uA:Nat->Nat->List Nat
 | 0,_=>[]
 | f+1,n=>if n=0 then [] else n%4294967296::uA f (n / 4294967296)
def ai (n:Nat):List Nat:=uA n n
@[simp] theorem dU:val []=0:=rfl
@[simp] theorem bl (d:Nat)(r:List Nat):val (d::r)=d+4294967296*val r:=rfl
theorem bW.nil:bW []:=fun _ h=>nomatch h
theorem bW.cons {d:Nat}{r:List Nat}:bW (d::r)↔d<4294967296/\bW r:=by simp [bW]
theorem bW.append {a b:List Nat}:bW (a++b)↔bW a/\bW b:=by simp [bW,or_imp,forall_and]
theorem bW.take {a:List Nat}(h:bW a)(k:Nat):bW (a.take k):=fun d hd=>h d (List.mem_of_mem_take hd)
theorem bW.drop {a:List Nat}(h:bW a)(k:Nat):bW (a.drop k):=fun d hd=>h d (List.mem_of_mem_drop hd)
theorem bW.set {a:List Nat}(h:bW a)(k x:Nat)(hx:x<4294967296):bW (a.set k x):=fun d hd=>by
 rcases List.mem_or_eq_of_mem_set hd with h'|h'
 ·exact h d h'
 ·exact h'▸hx
theorem bW.get {a:List Nat}(h:bW a){i:Nat}(hi:i<a.length):a[i]<4294967296:=h _ (List.getElem_mem hi)
theorem bW.rep (n:Nat):bW (List.replicate n 0):=fun d hd=>by rw [List.eq_of_mem_replicate hd];omega
theorem c_ (a b:List Nat):val (a++b)=val a+4294967296^a.length*val b:=by
 induction a with
 | nil=>simp
 | cons d r ih=>simp only [List.cons_append,bl,ih,List.length_cons,Nat.pow_succ];grind
theorem fC {ds:List Nat}(h:bW ds):val ds<4294967296^ds.length:=by
 induction ds with
 | nil=>simp
 | cons d r ih=>
  have h':=bW.cons.1 h
  have:=ih h'.2
  have h1:=h'.1
  simp only [bl,List.length_cons,Nat.pow_succ]
  have h2:val r+1<=4294967296^r.length:=this
  have h3:=Nat.mul_le_mul_left 4294967296 h2
  omega
theorem tQ (n:Nat):val (List.replicate n 0)=0:=by
 induction n with
 | zero=>rfl
 | succ n ih=>simp [List.replicate_succ,ih]
theorem aA (ds:List Nat)(i:Nat)(h:i<ds.length):val (ds.take (i+1))=val (ds.take i)+4294967296^i*ds[i]:=by
 rw [List.take_succ_eq_append_getElem h,c_]
 simp [List.length_take,Nat.min_eq_left (Nat.le_of_lt h)]
theorem aq {ds:List Nat}{i:Nat}(h:ds.length<=i):val (ds.take i)=val ds:=by rw [List.take_of_length_le h]
theorem wZ (ds:List Nat)(i x:Nat)(h:i<ds.length):(ds.set i x).take (i+1)=ds.take i++[x]:=by
 rw [List.take_succ_eq_append_getElem (by simpa using h),List.take_set,List.set_eq_of_length_le (by simp;omega)]
 simp
theorem aM (ds:List Nat)(i x:Nat)(h:i<ds.length):val ((ds.set i x).take (i+1))=val (ds.take i)+4294967296^i*x:=by
 rw [wZ ds i x h,c_]
 simp [List.length_take,Nat.min_eq_left (Nat.le_of_lt h)]
theorem hU (r:List Nat):cd (r++[0])=cd r:=by
 induction r with
 | nil=>simp [cd]
 | cons d r ih=>simp only [List.cons_append,cd,ih]
theorem oZ (r:List Nat)(d:Nat)(h:d≠0):cd (r++[d])=r++[d]:=by
 induction r with
 | nil=>simp [cd,h]
 | cons x r ih=>simp [List.cons_append,cd,ih]
theorem FC (ds:List Nat):val (cd ds)=val ds:=by
 induction ds with
 | nil=>rfl
 | cons d r ih=>
  simp only [cd]
  split
  ·rename_i h
   rw [bl,←ih,h.1,h.2];rfl
  ·simp [ih]
theorem kL (ds:List Nat):(cd ds).length<=ds.length:=by
 induction ds with
 | nil=>simp [cd]
 | cons d r ih=>simp only [cd];split<;>simp<;>omega
theorem FA (ds:List Nat):cd ds=ds.take (cd ds).length:=by
 induction ds with
 | nil=>rfl
 | cons d r ih=>
  simp only [cd]
  split
  ·rfl
  ·simp only [List.length_cons,List.take_succ_cons];rw [←ih]
theorem bW.trim {ds:List Nat}(h:bW ds):bW (cd ds):=by rw [FA];exact h.take _
theorem B6 (ds:List Nat):sI (cd ds):=by
 unfold sI
 induction ds with
 | nil=>rfl
 | cons d r ih=>
  rw [cd]
  split
  ·rfl
  ·rename_i h;rw [cd,ih,if_neg h]
theorem sI.tail {d:Nat}{r:List Nat}(h:sI (d::r)):sI r:=by
 unfold sI at h ⊢
 simp only [cd] at h
 split at h
 ·cases h
 ·injection h
theorem sI.zero {ds:List Nat}(h:sI ds)(hv:val ds=0):ds=[]:=by
 induction ds with
 | nil=>rfl
 | cons d r ih=>
  have hr:=ih h.tail (by simp at hv;omega)
  subst hr
  simp at hv;subst hv
  simp [sI,cd] at h
theorem pO:∀(f n:Nat),n<=f->val (uA f n)=n/\bW (uA f n)/\sI (uA f n)
 | 0,n,h=>⟨by simp [uA];omega,bW.nil,rfl⟩
 | f+1,n,h=>by
  simp only [uA]
  split
  ·subst_vars;exact ⟨rfl,bW.nil,rfl⟩
  ·obtain ⟨h1,h2,h3⟩:=pO f (n / 4294967296) (by omega)
   refine ⟨by rw [bl,h1];omega,bW.cons.2 ⟨by omega,h2⟩,?_⟩
   unfold sI at h3 ⊢
   rw [cd,h3,if_neg]
   rintro ⟨e1,e2⟩
   rw [e1] at h1
   simp at h1
   omega
theorem ag (n:Nat):val (ai n)=n:=(pO n n (Nat.le_refl _)).1
theorem aE (n:Nat):bW (ai n):=(pO n n (Nat.le_refl _)).2.1
theorem ja (n:Nat):sI (ai n):=(pO n n (Nat.le_refl _)).2.2
theorem sI.ext:∀{a b:List Nat},bW a->bW b->sI a->sI b->val a=val b->a=b
 | [],b,_,_,_,hb,h=>(hb.zero (by rw [←h];rfl)).symm
 | d::r,[],_,_,ha,_,h=>by have:=ha.zero h;cases this
 | d::r,e::s,ha,hb,na,nb,h=>by
  have h1:=(bW.cons.1 ha).1
  have h2:=(bW.cons.1 hb).1
  simp only [bl] at h
  have:val r=val s:=by omega
  have hrs:=sI.ext (bW.cons.1 ha).2 (bW.cons.1 hb).2 na.tail nb.tail this
  have:d=e:=by omega
  subst this;rw [hrs]
theorem uC {ds:List Nat}(h:bW ds)(hn:sI ds):ai (val ds)=ds:=sI.ext (aE _) h (ja _) hn (ag _)
theorem aR {ds:List Nat}(h:bW ds):cd ds=ai (val ds):=by
 rw [←FC,uC h.trim (B6 _)]
theorem uB {a b:Nat}(h:ai a=ai b):a=b:=by rw [←ag a,h,ag]
@[simp] theorem xZ:ai 0=[]:=rfl
theorem bD {n:Nat}:ai n=[]↔n=0:=⟨fun h=>uB (by rw [h];rfl),fun h=>h▸rfl⟩
theorem sI.last {ds:List Nat}(h:sI ds)(hl:0<ds.length):ds[ds.length-1]≠0:=by
 intro e
 have hs:ds=ds.take (ds.length-1)++[ds[ds.length-1]]:=by
  rw [←List.take_succ_eq_append_getElem (by omega),Nat.sub_add_cancel hl,List.take_length]
 rw [e] at hs
 have h2:cd ds=ds:=h
 rw [hs,hU] at h2
 have:=kL (ds.take (ds.length-1))
 rw [h2] at this
 simp at this
 omega
theorem BH {ds:List Nat}(h:∀hl:0<ds.length,ds[ds.length-1]≠0):sI ds:=by
 rcases Nat.eq_zero_or_pos ds.length with e|e
 ·rw [List.length_eq_zero_iff.1 e];rfl
 ·have hs:ds=ds.take (ds.length-1)++[ds[ds.length-1]]:=by
   rw [←List.take_succ_eq_append_getElem (by omega),Nat.sub_add_cancel e,List.take_length]
  have:=oZ (ds.take (ds.length-1)) _ (h e)
  rw [←hs] at this
  exact this
theorem HZ {ds:List Nat}(h:sI ds)(hl:0<ds.length):4294967296^(ds.length-1)<=val ds:=by
 have hs:ds=ds.take (ds.length-1)++[ds[ds.length-1]]:=by
  rw [←List.take_succ_eq_append_getElem (by omega),Nat.sub_add_cancel hl,List.take_length]
 have h0:=h.last hl
 rw [hs,c_]
 simp only [bl,dU,List.length_take]
 rw [Nat.min_eq_left (by omega)]
 simp only [List.length_append,List.length_take,List.length_singleton]
 rw [Nat.min_eq_left (by omega),Nat.sub_add_cancel hl]
 have:4294967296^(ds.length-1)*1<=4294967296^(ds.length-1)*(ds[ds.length-1]+4294967296*0):=Nat.mul_le_mul_left _ (by omega)
 omega
theorem aG {n k:Nat}:(ai n).length<=k↔n<4294967296^k:=by
 constructor
 ·intro h
  have:=fC (aE n)
  rw [ag] at this
  exact Nat.lt_of_lt_of_le this (Nat.pow_le_pow_right (by omega) h)
 ·intro h
  rcases Nat.lt_or_ge k (ai n).length with h'|h'
  ·have:=HZ (ja n) (by omega)
   rw [ag] at this
   have h2:4294967296^k<=4294967296^((ai n).length-1):=Nat.pow_le_pow_right (by omega) (by omega)
   omega
  ·exact h'
theorem rX {n k:Nat}:k<(ai n).length↔4294967296^k<=n:=by
 have:=@aG n k
 omega
theorem fY (ds:List Nat)(i:Nat)(h:i<ds.length):val ds=val (ds.take i)+4294967296^i*(ds[i]+4294967296*val (ds.drop (i+1))):=by
 have h2:val ds=val (ds.take i++ds.drop i):=by rw [List.take_append_drop]
 rw [h2,c_,List.drop_eq_getElem_cons h]
 simp only [List.length_take,Nat.min_eq_left (Nat.le_of_lt h),bl]
theorem jI {a b:List Nat}{i:Nat}(ha:bW a)(hi:i<a.length)(hj:i<b.length)(hd:a.drop (i+1)=b.drop (i+1))(hl:a[i]<b[i]):val a<val b:=by
 rw [fY a i hi,fY b i hj,hd]
 have h1:=fC (ha.take i)
 simp only [List.length_take,Nat.min_eq_left (Nat.le_of_lt hi)] at h1
 have h2:4294967296^i*(a[i]+4294967296*val (b.drop (i+1))+1)<=4294967296^i*(b[i]+4294967296*val (b.drop (i+1))):=Nat.mul_le_mul_left _ (by omega)
 rw [Nat.mul_add,Nat.mul_one] at h2
 omega
theorem kE {a b:Nat}(h:(ai a).length<(ai b).length):a<b:=by
 have h1:=fC (aE a)
 have h2:=HZ (ja b) (by omega)
 rw [ag] at h1 h2
 have h3:4294967296^(ai a).length<=4294967296^((ai b).length-1):=Nat.pow_le_pow_right (by omega) (by omega)
 omega
def ky (a b:Nat):Int:=if a<b then -1 else if b<a then 1 else 0
theorem aI {a b:Nat}(h:a<=b):(ai a).length<=(ai b).length:=by
 rcases Nat.lt_or_ge (ai b).length (ai a).length with h'|h'
 ·have:=kE h';omega
 ·exact h'
theorem bz {ds:List Nat}(h:bW ds):(ai (val ds)).length<=ds.length:=by rw [←aR h];exact kL ds
theorem II {n:Nat}(h:n<4294967296)(h0:n≠0):ai n=[n]:=by
 have:sI [n]:=by simp [sI,cd,h0]
 have:=uC (by simp [bW];exact h) this
 simpa using this
end Go.fN
namespace Go.Proofs.Tryz
open Go.fN
section
variable {α:Type}
structure Ord (c:α->α->Int):Prop where
 Iq:∀a b,c a b<0->¬c b a<0
 tr:∀a b d,¬c a b<0->¬c b d<0->¬c a d<0
variable {c:α->α->Int}
theorem Ord.le (h:Ord c){a b:α}(l:c a b<0):¬c b a<0:=h.Iq a b l
theorem Ord.refl (h:Ord c)(a:α):¬c a a<0:=fun l=>h.Iq a a l l
def jn (d:α)(l:List α)(i j:Nat):List α:=(l.set i (l.getD j d)).set j (l.getD i d)
variable {d:α}
theorem nL {l:List α}{i j:Nat}:(jn d l i j).length=l.length:=by simp [jn]
theorem pQ {l:List α}{i k:Nat}{x:α}(hi:i<l.length):(l.set i x).getD k d=if k=i then x else l.getD k d:=by
 simp only [List.getD_eq_getElem?_getD,List.getElem?_set]
 by_cases h:k=i
 ·subst h;simp [hi]
 ·have:¬i=k:=fun e=>h e.symm
  simp [h,this]
theorem lM {l:List α}{i j k:Nat}(hi:i<l.length)(hj:j<l.length):(jn d l i j).getD k d=if k=j then l.getD i d else if k=i then l.getD j d else l.getD k d:=by
 unfold jn
 rw [pQ (by simpa using hj),pQ hi]
theorem HU {l:List α}{i j:Nat}(hi:i<l.length)(hj:j<l.length):(jn d l i j).Perm l:=by
 have h:=Array.swap_perm (xs:=l.toArray) (i:=i) (j:=j) (by simpa using hi) (by simpa using hj)
 have e:(l.toArray.swap i j (by simpa using hi) (by simpa using hj)).toList=jn d l i j:=by
  simp [Array.swap,jn,List.getD_eq_getElem?_getD,hi,hj]
 have:=h.toList
 rw [e] at this
 simpa using this
structure h_ (d:α) (l m:List α) (a b:Nat):Prop where
 len:m.length=l.length
 out:∀k,¬(a<=k/\k<b)->m.getD k d=l.getD k d
 mem:∀k,a<=k->k<b->∃k',a<=k'/\k'<b/\m.getD k d=l.getD k' d
 perm:m.Perm l
theorem h_.refl (l:List α)(a b:Nat):h_ d l l a b:=⟨rfl,fun _ _=>rfl,fun k h h'=>⟨k,h,h',rfl⟩,.refl _⟩
theorem h_.trans {l m n:List α}{a b:Nat}(h:h_ d l m a b)(g:h_ d m n a b):h_ d l n a b:=
 ⟨g.len.trans h.len,fun k hk=>(g.out k hk).trans (h.out k hk),fun k h1 h2=>by
  obtain ⟨k',h3,h4,e⟩:=g.mem k h1 h2
  obtain ⟨k'',h5,h6,e'⟩:=h.mem k' h3 h4
  exact ⟨k'',h5,h6,e.trans e'⟩,g.perm.trans h.perm⟩
theorem h_.wide {l m:List α}{a b a' b':Nat}(h:h_ d l m a b)(ha:a'<=a)(hb:b<=b'):h_ d l m a' b':=
 ⟨h.len,fun k hk=>h.out k (by omega),fun k h1 h2=>by
  by_cases hk:a<=k/\k<b
  ·obtain ⟨k',h3,h4,e⟩:=h.mem k hk.1 hk.2
   exact ⟨k',by omega,by omega,e⟩
  ·exact ⟨k,h1,h2,h.out k hk⟩,h.perm⟩
theorem h_.jn {l:List α}{a b i j:Nat}(hi:a<=i)(hi':i<b)(hj:a<=j)(hj':j<b)(hb:b<=l.length):h_ d l (jn d l i j) a b:=by
 refine ⟨nL,fun k hk=>?_,fun k h1 h2=>?_,HU (by omega) (by omega)⟩
 ·rw [lM (by omega) (by omega),if_neg (by omega),if_neg (by omega)]
 ·rw [lM (by omega) (by omega)]
  split
  ·exact ⟨i,hi,hi',rfl⟩
  ·split
   ·exact ⟨j,hj,hj',rfl⟩
   ·exact ⟨k,h1,h2,rfl⟩
def pG (c:α->α->Int)(d:α)(l:List α)(a b:Nat):Prop:=∀p q,a<=p->p<q->q<b->¬c (l.getD q d) (l.getD p d)<0
theorem pG.short {l:List α}{a b:Nat}(h:b<=a+1):pG c d l a b:=fun p q h1 h2 h3=>by omega
theorem pG.step (ho:Ord c){l:List α}{a b:Nat}(h:pG c d l a b)(h0:a<b)(hb:¬c (l.getD b d) (l.getD (b-1) d)<0):pG c d l a (b+1):=by
 intro p q h1 h2 h3
 by_cases e:q=b
 ·subst e
  by_cases e':p=q-1
  ·subst e';exact hb
  ·exact ho.tr _ _ _ hb (h p (q-1) h1 (by omega) (by omega))
 ·exact h p q h1 h2 (by omega)
def Ih (c:α->α->Int)(d:α)(l:List α)(a i j:Nat):Prop:=∀p q,a<=p->p<q->q<=i->q≠j->¬c (l.getD q d) (l.getD p d)<0
theorem Ih.start {l:List α}{a i:Nat}(h:pG c d l a i):Ih c d l a i i:=fun p q h1 h2 h3 h4=>h p q h1 h2 (by omega)
theorem Ih.done (ho:Ord c){l:List α}{a i j:Nat}(h:Ih c d l a i j)(hji:j<=i)(hs:j<=a\/¬c (l.getD j d) (l.getD (j-1) d)<0):pG c d l a (i+1):=by
 intro p q h1 h2 h3
 by_cases e:q=j
 ·subst e
  rcases hs with hs|hs
  ·omega
  ·by_cases e':p=q-1
   ·subst e';exact hs
   ·exact ho.tr _ _ _ hs (h p (q-1) h1 (by omega) (by omega) (by omega))
 ·exact h p q h1 h2 (by omega) e
theorem Ih.move (ho:Ord c){l:List α}{a i j:Nat}(h:Ih c d l a i j)(hj:a<j)(hji:j<=i)(hi:i<l.length)(hl:c (l.getD j d) (l.getD (j-1) d)<0):Ih c d (jn d l j (j-1)) a i (j-1):=by
 intro p q h1 h2 h3 h4
 have ha:=fun k=>lM (d:=d) (l:=l) (i:=j) (j:=j-1) (k:=k) (by omega) (by omega)
 rw [ha,ha]
 by_cases eq:q=j
 ·subst eq
  rw [if_neg (by omega),if_pos rfl]
  by_cases ep:p=q-1
  ·rw [if_pos ep];exact ho.Iq _ _ hl
  ·rw [if_neg ep,if_neg (by omega)];exact h p (q-1) h1 (by omega) (by omega) (by omega)
 ·rw [if_neg h4,if_neg eq]
  by_cases ep:p=j-1
  ·rw [if_pos ep];exact h j q (by omega) (by omega) h3 eq
  ·rw [if_neg ep]
   by_cases UD:p=j
   ·rw [if_pos UD];exact h (j-1) q (by omega) (by omega) h3 eq
   ·rw [if_neg UD];exact h p q h1 h2 h3 eq
def Hp (c:α->α->Int)(d:α)(l:List α)(f lo hi:Nat)(r:Option Nat):Prop:=
 (∀i k,lo<=i->(k=2*i+1\/k=2*i+2)->k<hi->r≠some i->¬c (l.getD (f+i) d) (l.getD (f+k) d)<0) /\
 (∀i j k,r=some j->lo<=i->(j=2*i+1\/j=2*i+2)->(k=2*j+1\/k=2*j+2)->k<hi->¬c (l.getD (f+i) d) (l.getD (f+k) d)<0)
theorem Hp.top (ho:Ord c){l:List α}{f hi:Nat}(h:Hp c d l f 0 hi none):∀k,k<hi->¬c (l.getD f d) (l.getD (f+k) d)<0:=by
 intro k
 induction k using Nat.strongRecOn with
 | ind k ih=>
  intro hk
  by_cases h0:k=0
  ·subst h0;exact ho.refl _
  ·exact ho.tr _ _ _ (ih ((k-1) / 2) (by omega) (by omega)) (h.1 ((k-1) / 2) k (by omega) (by omega) hk (by simp))
theorem Hp.leaf {l:List α}{f lo hi r:Nat}(h:Hp c d l f lo hi (some r))(hr:hi<=2*r+1):Hp c d l f lo hi none:=
 ⟨fun i k h1 h2 h3 _=>by
  by_cases e:r=i
  ·omega
  ·exact h.1 i k h1 h2 h3 (by simpa using e),fun i j k e=>by cases e⟩
theorem Hp.stop (ho:Ord c){l:List α}{f lo hi r k:Nat}(h:Hp c d l f lo hi (some r))(hk:k=2*r+1\/k=2*r+2)(hm:∀k',(k'=2*r+1\/k'=2*r+2)->k'<hi->¬c (l.getD (f+k) d) (l.getD (f+k') d)<0)
  (hs:¬c (l.getD (f+r) d) (l.getD (f+k) d)<0):Hp c d l f lo hi none:=
 ⟨fun i k' h1 h2 h3 _=>by
  by_cases e:r=i
  ·subst e;exact ho.tr _ _ _ hs (hm k' h2 h3)
  ·exact h.1 i k' h1 h2 h3 (by simpa using e),fun i j k e=>by cases e⟩
theorem Hp.down (ho:Ord c){l:List α}{f lo hi r k:Nat}(h:Hp c d l f lo hi (some r))(hlo:lo<=r)(hl:f+hi<=l.length)(hk:k=2*r+1\/k=2*r+2)(hkh:k<hi)(hm:∀k',(k'=2*r+1\/k'=2*r+2)->k'<hi->¬c (l.getD (f+k) d) (l.getD (f+k') d)<0)
  (hs:c (l.getD (f+r) d) (l.getD (f+k) d)<0):Hp c d (jn d l (f+r) (f+k)) f lo hi (some k):=by
 have ha:=fun x=>lM (d:=d) (l:=l) (i:=f+r) (j:=f+k) (k:=x) (by omega) (by omega)
 refine ⟨fun i k' h1 h2 h3 h4=>?_,fun i j k' e h1 h2 h3 h4=>?_⟩
 ·have h4:¬i=k:=fun e=>h4 (by rw [e])
  rw [ha,ha,if_neg (show ¬f+i=f+k by omega)]
  by_cases er:i=r
  ·subst er
   rw [if_pos rfl]
   by_cases ek:k'=k
   ·rw [if_pos (by omega)];exact ho.Iq _ _ hs
   ·rw [if_neg (by omega),if_neg (by omega)];exact hm k' h2 h3
  ·rw [if_neg (by omega)]
   by_cases ek:k'=r
   ·subst ek
    rw [if_neg (by omega),if_pos rfl]
    exact h.2 i k' k rfl h1 h2 hk hkh
   ·rw [if_neg (by omega),if_neg (by omega)]
    exact h.1 i k' h1 h2 h3 (by simp;omega)
 ·cases e
  rw [ha,ha]
  have:i=r:=by omega
  subst this
  rw [if_neg (by omega),if_pos rfl,if_neg (by omega),if_neg (by omega)]
  exact h.1 k k' (by omega) h3 h4 (by simp;omega)
theorem Hp.more {l:List α}{f lo hi:Nat}(h:Hp c d l f (lo+1) hi none):Hp c d l f lo hi (some lo):=
 ⟨fun i k h1 h2 h3 h4=>h.1 i k (by have:¬lo=i:=fun e=>h4 (by rw [e]);omega) h2 h3 (by simp),fun i j k e h1 h2 h3 h4=>by cases e;omega⟩
theorem Hp.pop {l:List α}{f hi:Nat}(h:Hp c d l f 0 (hi+1) none)(hl:f+hi<l.length):Hp c d (jn d l f (f+hi)) f 0 hi (some 0):=by
 have ha:=fun x=>lM (d:=d) (l:=l) (i:=f) (j:=f+hi) (k:=x) (by omega) (by omega)
 refine ⟨fun i k h1 h2 h3 h4=>?_,fun i j k e h1 h2 h3 h4=>by cases e;omega⟩
 have h4:¬i=0:=fun e=>h4 (by rw [e])
 rw [ha,ha,if_neg (by omega),if_neg (by omega),if_neg (by omega),if_neg (by omega)]
 exact h.1 i k h1 h2 (by omega) (by simp)
def Sep (c:α->α->Int)(d:α)(l:List α)(a m b:Nat):Prop:=∀p q,a<=p->p<m->m<=q->q<b->¬c (l.getD q d) (l.getD p d)<0
theorem h_.sep {l m:List α}{a b x y z:Nat}(h:h_ d l m a b)(hs:Sep c d l x y z)(hc:(x<=a/\b<=y)\/(y<=a/\b<=z)\/b<=x\/z<=a):Sep c d m x y z:=by
 intro p q h1 h2 h3 h4
 have key:∀k,∃k',m.getD k d=l.getD k' d/\(k=k'\/a<=k/\k<b/\a<=k'/\k'<b):=fun k=>by
  by_cases hk:a<=k/\k<b
  ·obtain ⟨k',e1,e2,e⟩:=h.mem k hk.1 hk.2
   exact ⟨k',e,.inr ⟨hk.1,hk.2,e1,e2⟩⟩
  ·exact ⟨k,h.out k hk,.inl rfl⟩
 obtain ⟨p',e1,e2⟩:=key p
 obtain ⟨q',f1,f2⟩:=key q
 rw [e1,f1]
 exact hs p' q' (by omega) (by omega) (by omega) (by omega)
theorem h_.AE {l m:List α}{a b x y:Nat}(h:h_ d l m a b)(hs:pG c d l x y)(hc:y<=a\/b<=x):pG c d m x y:=by
 intro p q h1 h2 h3
 rw [h.out p (by omega),h.out q (by omega)]
 exact hs p q h1 h2 h3
theorem pG.join {l:List α}{a m b:Nat}(h1:pG c d l a m)(h2:pG c d l m b)(h3:Sep c d l a m b):pG c d l a b:=by
 intro p q g1 g2 g3
 by_cases hq:q<m
 ·exact h1 p q g1 g2 hq
 ·by_cases hp:m<=p
  ·exact h2 p q hp g2 g3
  ·exact h3 p q g1 (by omega) (by omega) g3
end
end Go.Proofs.Tryz
namespace Go.Proofs.Tryz.aw
abbrev V2:=Rat×Rat
def cr (u v:V2):Rat:=u.1*v.2-u.2*v.1
def dt (u v:V2):Rat:=u.1*v.1+u.2*v.2
def EB (u:V2):V2:=(-u.2,u.1)
def up (u:V2):Prop:=u.2>0\/u.2=0/\u.1>0
def dn (u:V2):Prop:=u.2<0\/u.2=0/\u.1<0
def nz (u:V2):Prop:=u.1≠0\/u.2≠0
def oz (u v:V2):Prop:=(up u/\dn v)\/((up u/\up v\/dn u/\dn v)/\cr u v>0)
def wS (a:Rat)(u:V2)(b:Rat)(w:V2):V2:=(a*u.1+b*w.1,a*u.2+b*w.2)
def Qh (s r:V2):Prop:=∃c:Rat,c>0/\s.1=-(c*r.1)/\s.2=-(c*r.2)
theorem jQ {u:V2}(h:nz u):up u\/dn u:=by unfold nz at h;unfold up dn;grind
theorem eA {u:V2}(h:up u)(h':dn u):False:=by unfold up at h;unfold dn at h';grind
theorem ck (u v:V2):cr v u=-cr u v:=by unfold cr;grind
theorem GH (u w r:V2):cr u r*w.1+cr r w*u.1=cr u w*r.1:=by unfold cr;grind
theorem zH (u w r:V2):cr u r*w.2+cr r w*u.2=cr u w*r.2:=by unfold cr;grind
theorem rk (r:V2)(a:Rat)(u:V2)(b:Rat)(w:V2):cr r (wS a u b w)=a*cr r u+b*cr r w:=by unfold cr wS;grind
theorem C3 (r u:V2):cr r (EB u)=dt r u:=by unfold cr EB dt;grind
theorem jY {s r:V2}(h:Qh s r)(z:V2):∃c:Rat,c>0/\cr s z=-(c*cr r z)/\cr z s=-(c*cr z r):=by
 obtain ⟨c,h0,h1,h2⟩:=h
 exact ⟨c,h0,by unfold cr;rw [h1,h2];grind,by unfold cr;rw [h1,h2];grind⟩
theorem mp {a b:Rat}(ha:a>0)(hb:b>0):a*b>0:=Rat.mul_pos ha hb
theorem mn {a b:Rat}(ha:a≥0)(hb:b≥0):a*b≥0:=Rat.mul_nonneg ha hb
theorem b1 {u w r:V2}(hu:up u)(hw:dn w)(hr:up r)(a:cr u r>0)(b:cr r w<=0)(c:cr u w≥0):False:=by
 have e:=zH u w r
 unfold up at hu hr;unfold dn at hw
 have h1:cr u r*(-w.2)≥0:=mn (by grind) (by grind)
 have h2:(-(cr r w))*u.2≥0:=mn (by grind) (by grind)
 have h3:cr u w*r.2≥0:=mn c (by grind)
 have z1:cr u r*w.2=0:=by grind
 have w2:w.2=0:=by rcases Rat.mul_eq_zero.1 z1 with h|h<;>grind
 have w1:w.1<0:=by grind
 have bb:cr r w=-(r.2*w.1):=by unfold cr;grind
 have r2:r.2=0:=by
  by_cases h:r.2>0
  ·have:=mp h (show -w.1>0 by grind)
   grind
  ·grind
 have r1:r.1>0:=by grind
 have aa:cr u r=-(u.2*r.1):=by unfold cr;grind
 have:=mn (show u.2≥0 by grind) (show r.1≥0 by grind)
 grind
theorem b2 {u w r:V2}(hu:up u)(hw:dn w)(hr:dn r)(a:cr u r<=0)(b:cr r w>0)(c:cr u w≥0):False:=by
 have e:=zH u w r
 unfold up at hu;unfold dn at hw hr
 have h1:(-(cr u r))*(-w.2)≥0:=mn (by grind) (by grind)
 have h2:cr r w*u.2≥0:=mn (by grind) (by grind)
 have h3:cr u w*(-r.2)≥0:=mn c (by grind)
 have z1:cr r w*u.2=0:=by grind
 have u2:u.2=0:=by rcases Rat.mul_eq_zero.1 z1 with h|h<;>grind
 have u1:u.1>0:=by grind
 have cc:cr u w=u.1*w.2:=by unfold cr;grind
 have w2:w.2=0:=by
  by_cases h:w.2<0
  ·have:=mp u1 (show -w.2>0 by grind)
   grind
  ·grind
 have w1:w.1<0:=by grind
 have bb:cr r w=-(r.2*w.1):=by unfold cr;grind
 have:=mn (show -r.2≥0 by grind) (show -w.1≥0 by grind)
 grind
theorem b3 {u w r:V2}(hu:dn u)(hw:up w)(hr:dn r)(a:cr u r>0)(b:cr r w<=0)(c:cr u w≥0):False:=by
 have e:=zH u w r
 unfold dn at hu hr;unfold up at hw
 have h1:cr u r*w.2≥0:=mn (by grind) (by grind)
 have h2:(-(cr r w))*(-u.2)≥0:=mn (by grind) (by grind)
 have h3:cr u w*(-r.2)≥0:=mn c (by grind)
 have z1:cr u r*w.2=0:=by grind
 have w2:w.2=0:=by rcases Rat.mul_eq_zero.1 z1 with h|h<;>grind
 have w1:w.1>0:=by grind
 have bb:cr r w=-(r.2*w.1):=by unfold cr;grind
 have r2:r.2=0:=by
  by_cases h:r.2<0
  ·have:=mp w1 (show -r.2>0 by grind)
   grind
  ·grind
 have r1:r.1<0:=by grind
 have aa:cr u r=-(u.2*r.1):=by unfold cr;grind
 have:=mn (show -u.2≥0 by grind) (show -r.1≥0 by grind)
 grind
theorem b4 {u w r:V2}(hu:dn u)(hw:up w)(hr:up r)(a:cr u r<=0)(b:cr r w>0)(c:cr u w≥0):False:=by
 have e:=zH u w r
 unfold dn at hu;unfold up at hw hr
 have h1:(-(cr u r))*w.2≥0:=mn (by grind) (by grind)
 have h2:cr r w*(-u.2)≥0:=mn (by grind) (by grind)
 have h3:cr u w*r.2≥0:=mn c (by grind)
 have z1:cr r w*u.2=0:=by grind
 have u2:u.2=0:=by rcases Rat.mul_eq_zero.1 z1 with h|h<;>grind
 have u1:u.1<0:=by grind
 have cc:cr u w=u.1*w.2:=by unfold cr;grind
 have w2:w.2=0:=by
  by_cases h:w.2>0
  ·have:=mp h (show -u.1>0 by grind)
   grind
  ·grind
 have w1:w.1>0:=by grind
 have bb:cr r w=-(r.2*w.1):=by unfold cr;grind
 have:=mn (show r.2≥0 by grind) (show w.1≥0 by grind)
 grind
theorem Jf {u s r v:V2}(hr:cr r v>0)(hu:cr u v>0)(hs:cr s v>0)(h1:cr r u≥0)(h2:cr u s≥0):cr r s≥0:=by
 have e:cr r s*cr u v=cr r u*cr s v+cr u s*cr r v:=by unfold cr;grind
 have a1:=mn h1 (show cr s v≥0 by grind)
 have a2:=mn h2 (show cr r v≥0 by grind)
 by_cases h:cr r s≥0
 ·exact h
 ·have:=mp (show -(cr r s)>0 by grind) hu
  grind
theorem LA:∀(D:List V2)(v:V2),(∃r∈D,cr r v>0)->∃u∈D,cr u v>0/\∀r∈D,cr r v>0->cr r u≥0
 | [],v,⟨r,h,_⟩=>by cases h
 | d::D,v,h=>by
  by_cases hD:∃r∈D,cr r v>0
  ·obtain ⟨u,hu,h1,h2⟩:=LA D v hD
   by_cases hd:cr d v>0
   ·by_cases hc:cr d u≥0
    ·refine ⟨u,List.mem_cons_of_mem _ hu,h1,fun r hr hp=>?_⟩
     rcases List.mem_cons.1 hr with rfl|hr
     ·exact hc
     ·exact h2 r hr hp
    ·refine ⟨d,List.mem_cons_self ..,hd,fun r hr hp=>?_⟩
     rcases List.mem_cons.1 hr with rfl|hr
     ·unfold cr;grind
     ·have:=ck d u
      exact Jf hp h1 hd (h2 r hr hp) (by grind)
   ·refine ⟨u,List.mem_cons_of_mem _ hu,h1,fun r hr hp=>?_⟩
    rcases List.mem_cons.1 hr with rfl|hr
    ·exact absurd hp hd
    ·exact h2 r hr hp
  ·obtain ⟨r,hr,hp⟩:=h
   rcases List.mem_cons.1 hr with rfl|hr
   ·refine ⟨r,List.mem_cons_self ..,hp,fun s hs hps=>?_⟩
    rcases List.mem_cons.1 hs with rfl|hs
    ·unfold cr;grind
    ·exact absurd ⟨s,hs,hps⟩ hD
   ·exact absurd ⟨r,hr,hp⟩ hD
structure AD (D:List V2):Prop where
 nz:∀r∈D,nz r
 cl:∀r∈D,∃s∈D,Qh s r
 AE:D.Pairwise oz
def ss (a b:Rat):Prop:=(b>0->a>0)/\(b<0->a<0)
theorem dH {u v:V2}(hu:up u)(hv:up v):oz u v->cr u v>0:=by
 rintro (⟨_,h⟩|⟨_,h⟩)
 ·exact (eA hv h).elim
 ·exact h
theorem du {u v:V2}(hu:dn u)(hv:dn v):oz u v->cr u v>0:=by
 rintro (⟨h,_⟩|⟨_,h⟩)
 ·exact (eA h hu).elim
 ·exact h
theorem bT {u v:V2}(hu:dn u)(hv:up v):¬oz u v:=by
 rintro (⟨h,_⟩|⟨⟨h,_⟩|⟨_,h⟩,_⟩)
 ·exact eA h hu
 ·exact eA h hu
 ·exact eA hv h
theorem WQ {u w r v:V2}(nu:nz u)(nw:nz w)(nr:nz r)
  (o:oz u r/\oz r w\/oz w u/\oz u r\/oz r w/\oz w u)
  (h0:cr r v≠0)(hr:cr r v>0->cr u r<=0)(hr':cr r v<0->cr r w<=0)(c:cr u w≥0):False:=by
 have sw:=ck u w
 have two:cr u r>0->cr r w>0->False:=fun a b=>by
  by_cases h:cr r v>0
  ·have:=hr h;grind
  ·have:=hr' (by grind);grind
 have f1:cr u r>0->cr r w<=0:=fun a=>by
  by_cases h:cr r v>0
  ·have:=hr h;grind
  ·exact hr' (by grind)
 have f2:cr r w>0->cr u r<=0:=fun a=>by
  by_cases h:cr r v>0
  ·exact hr h
  ·have:=hr' (by grind);grind
 rcases jQ nu with hu|hu<;>rcases jQ nw with hw|hw<;>rcases jQ nr with hn|hn
 ·rcases o with ⟨a,b⟩|⟨a,b⟩|⟨a,b⟩
  ·exact two (dH hu hn a) (dH hn hw b)
  ·have:=dH hw hu a;grind
  ·have:=dH hw hu b;grind
 ·rcases o with ⟨a,b⟩|⟨a,b⟩|⟨a,b⟩
  ·exact bT hn hw b
  ·have:=dH hw hu a;grind
  ·exact bT hn hw a
 ·rcases o with ⟨a,b⟩|⟨a,b⟩|⟨a,b⟩
  ·have:=dH hu hn a
   exact b1 hu hw hn this (f1 this) c
  ·exact bT hw hu a
  ·exact bT hw hu b
 ·rcases o with ⟨a,b⟩|⟨a,b⟩|⟨a,b⟩
  ·have:=du hn hw b
   exact b2 hu hw hn (f2 this) this c
  ·exact bT hw hu a
  ·exact bT hw hu b
 ·rcases o with ⟨a,b⟩|⟨a,b⟩|⟨a,b⟩
  ·exact bT hu hn a
  ·exact bT hu hn b
  ·have:=dH hn hw a
   exact b4 hu hw hn (f2 this) this c
 ·rcases o with ⟨a,b⟩|⟨a,b⟩|⟨a,b⟩
  ·exact bT hn hw b
  ·have:=du hu hn b
   exact b3 hu hw hn this (f1 this) c
  ·exact bT hn hw a
 ·rcases o with ⟨a,b⟩|⟨a,b⟩|⟨a,b⟩
  ·exact bT hu hn a
  ·exact bT hu hn b
  ·have:=du hw hu b;grind
 ·rcases o with ⟨a,b⟩|⟨a,b⟩|⟨a,b⟩
  ·exact two (du hu hn a) (du hn hw b)
  ·have:=du hw hu a;grind
  ·have:=du hw hu b;grind
def Lz (u:V2):V2:=(u.1,-u.2)
theorem zx (u v:V2):cr (Lz u) (Lz v)=-cr u v:=by unfold cr Lz;grind
theorem OQ (D:List V2)(v:V2)(h:∃r∈D,cr r v<0):∃w∈D,cr w v<0/\∀r∈D,cr r v<0->cr r w<=0:=by
 obtain ⟨r,hr,hn⟩:=h
 obtain ⟨w,hw,h1,h2⟩:=LA (D.map Lz) (Lz v) ⟨Lz r,List.mem_map_of_mem hr,by rw [zx];grind⟩
 obtain ⟨w0,h0,rfl⟩:=List.mem_map.1 hw
 rw [zx] at h1
 refine ⟨w0,h0,by grind,fun r hr hn=>?_⟩
 have:=h2 (Lz r) (List.mem_map_of_mem hr) (by rw [zx];grind)
 rw [zx] at this
 grind
section
variable {D:List V2} (h:AD D) {v:V2} (hv:∀r ∈ D,cr r v≠0)
include h hv
theorem Pf (hD:D≠[]):∃u∈D,∃w∈D,cr u v>0/\cr w v<0/\cr u w≥0 /\
  (∀r∈D,cr r v>0->cr u r<=0/\cr r w≥0)/\(∀r∈D,cr r v<0->cr r w<=0/\cr u r≥0):=by
 obtain ⟨d,hd⟩:=List.exists_mem_of_ne_nil D hD
 have pos:∃r∈D,cr r v>0:=by
  by_cases hp:cr d v>0
  ·exact ⟨d,hd,hp⟩
  ·obtain ⟨s,hs,ho⟩:=h.cl d hd
   obtain ⟨c,c0,e,_⟩:=jY ho v
   have:=hv d hd
   exact ⟨s,hs,by rw [e];have:=mp c0 (show -(cr d v)>0 by grind);grind⟩
 obtain ⟨u,hu,u1,u2⟩:=LA D v pos
 have neg:∃r∈D,cr r v<0:=by
  obtain ⟨s,hs,ho⟩:=h.cl u hu
  obtain ⟨c,c0,e,_⟩:=jY ho v
  exact ⟨s,hs,by rw [e];have:=mp c0 u1;grind⟩
 obtain ⟨w,hw,w1,w2⟩:=OQ D v neg
 have A:∀r∈D,cr r v>0->cr r w≥0:=fun r hr hp=>by
  obtain ⟨s,hs,ho⟩:=h.cl r hr
  obtain ⟨c,c0,e,_⟩:=jY ho v
  obtain ⟨c',c0',e',_⟩:=jY ho w
  have:=w2 s hs (by rw [e];have:=mp c0 hp;grind)
  rw [e'] at this
  by_cases hh:cr r w≥0
  ·exact hh
  ·have:=mp c0' (show -(cr r w)>0 by grind);grind
 have B:∀r∈D,cr r v<0->cr u r≥0:=fun r hr hp=>by
  obtain ⟨s,hs,ho⟩:=h.cl r hr
  obtain ⟨c,c0,e,_⟩:=jY ho v
  obtain ⟨c',c0',e',_⟩:=jY ho u
  have:=u2 s hs (by rw [e];have:=mp c0 (show -(cr r v)>0 by grind);grind)
  rw [e'] at this
  have sw:=ck r u
  by_cases hh:cr u r≥0
  ·exact hh
  ·have:=mp c0' (show cr r u>0 by grind);grind
 refine ⟨u,hu,w,hw,u1,w1,A u hu u1,fun r hr hp=>⟨?_,A r hr hp⟩,fun r hr hp=>⟨w2 r hr hp,B r hr hp⟩⟩
 have:=u2 r hr hp
 have sw:=ck u r
 grind
omit hv in
theorem jH {i j:Nat}{a b:V2}(hi:D[i]?=some a)(hj:D[j]?=some b)(wQ:i<j):oz a b:=by
 obtain ⟨h1,e1⟩:=List.getElem?_eq_some_iff.1 hi
 obtain ⟨h2,e2⟩:=List.getElem?_eq_some_iff.1 hj
 have:=List.pairwise_iff_getElem.1 h.AE i j h1 h2 wQ
 rwa [e1,e2] at this
theorem Tu (hD:D≠[]):∃i u w,D[i]?=some u/\D[(i+1)%D.length]?=some w/\cr u v>0/\cr w v<0/\cr u w≥0 /\
  (∀r∈D,cr r v>0->cr u r<=0/\cr r w≥0)/\(∀r∈D,cr r v<0->cr r w<=0/\cr u r≥0):=by
 obtain ⟨u,hu,w,hw,u1,w1,uw,hp,hn⟩:=Pf h hv hD
 obtain ⟨i,hi⟩:=List.getElem?_of_mem hu
 obtain ⟨j,hj⟩:=List.getElem?_of_mem hw
 have li:i<D.length:=(List.getElem?_eq_some_iff.1 hi).1
 have lj:j<D.length:=(List.getElem?_eq_some_iff.1 hj).1
 have ij:i≠j:=fun e=>by
  subst e;rw [hi] at hj;cases hj;grind
 refine ⟨i,u,w,hi,?_,u1,w1,uw,hp,hn⟩
 by_cases e:(i+1)%D.length=j
 ·rw [e];exact hj
 have lk:(i+1)%D.length<D.length:=Nat.mod_lt _ (by omega)
 obtain ⟨r,hr⟩:∃r,D[(i+1)%D.length]?=some r:=⟨_,List.getElem?_eq_getElem lk⟩
 have hm:r∈D:=List.mem_of_getElem? hr
 refine (WQ (h.nz u hu) (h.nz w hw) (h.nz r hm) (v:=v) ?_ (hv r hm) (fun a=>(hp r hm a).1) (fun a=>(hn r hm a).1) uw).elim
 by_cases hl:i+1<D.length
 ·rw [Nat.mod_eq_of_lt hl] at hr e
  by_cases hlt:i<j
  ·exact .inl ⟨jH h hi hr (by omega),jH h hr hj (by omega)⟩
  ·exact .inr (.inl ⟨jH h hj hi (by omega),jH h hi hr (by omega)⟩)
 ·have:i+1=D.length:=by omega
  rw [this,Nat.mod_self] at hr e
  exact .inr (.inr ⟨jH h hr hj (by omega),jH h hj hi (by omega)⟩)
end
theorem Ko {r:V2}(h:nz r){c:Rat}(h1:c*r.1=0)(h2:c*r.2=0):c=0:=by
 rcases Rat.mul_eq_zero.1 h1 with e|e
 ·exact e
 ·rcases Rat.mul_eq_zero.1 h2 with e'|e'
  ·exact e'
  ·unfold nz at h;grind
theorem sq_pos {u:V2}(h:nz u):dt u u>0:=by
 have sq:∀x:Rat,x*x≥0:=fun x=>by
  by_cases hx:x≥0
  ·exact mn hx hx
  ·have:=mn (show -x≥0 by grind) (show -x≥0 by grind);grind
 have:=sq u.1
 have:=sq u.2
 unfold dt
 by_cases hh:u.1*u.1+u.2*u.2>0
 ·exact hh
 ·unfold nz at h
  have e1:u.1*u.1=0:=by grind
  have e2:u.2*u.2=0:=by grind
  rcases Rat.mul_eq_zero.1 e1 with e|e<;>rcases Rat.mul_eq_zero.1 e2 with e'|e'<;>grind
def qL (u w v':V2):Prop:=cr u w>0/\(∃a b:Rat,a>0/\b>0/\v'=wS a u b w)\/cr u w<=0/\∃a:Rat,a>0/\v'=wS a (EB u) 0 w
section
variable {D:List V2} (h:AD D)
include h
theorem Jy {v u w v':V2}(hu:u∈D)(hw:w∈D)(u1:cr u v>0)(w1:cr w v<0)(uw:cr u w≥0)
  (hp:∀r∈D,cr r v>0->cr u r<=0/\cr r w≥0)(hn:∀r∈D,cr r v<0->cr r w<=0/\cr u r≥0)
  (hs:qL u w v'){r:V2}(hr:r∈D):(cr r v>0->cr r v'>0)/\(cr r v<0->cr r v'<0):=by
 rcases hs with ⟨c,a,b,a0,b0,rfl⟩|⟨c,a,a0,rfl⟩
 ·have key:cr r u=0->cr r w=0->False:=fun e1 e2=>by
   have:=GH u w r
   have:=zH u w r
   have s:=ck u r
   have:=Ko (h.nz r hr) (c:=cr u w) (by grind) (by grind)
   grind
  have s:=ck u r
  rw [rk]
  constructor
  ·intro p
   obtain ⟨p1,p2⟩:=hp r hr p
   have m1:=mn (show a≥0 by grind) (show cr r u≥0 by grind)
   have m2:=mn (show b≥0 by grind) p2
   by_cases z:cr r u=0
   ·have:=mp b0 (show cr r w>0 by grind);grind
   ·have:=mp a0 (show cr r u>0 by grind);grind
  ·intro p
   obtain ⟨p1,p2⟩:=hn r hr p
   have m1:=mn (show a≥0 by grind) (show -(cr r u)≥0 by grind)
   have m2:=mn (show b≥0 by grind) (show -(cr r w)≥0 by grind)
   by_cases z:cr r u=0
   ·have:=mp b0 (show -(cr r w)>0 by grind);grind
   ·have:=mp a0 (show -(cr r u)>0 by grind);grind
 ·have z:cr u w=0:=by grind
  rw [rk,C3]
  have nu:=sq_pos (h.nz u hu)
  by_cases z0:cr r v=0
  ·exact ⟨fun p=>by grind,fun p=>by grind⟩
  have pl:cr u r=0:=by
   have e1:=GH u w v
   have e2:=zH u w v
   have s1:=ck v w
   have s2:=ck u r
   have ew:cr u v*cr r w=cr w v*cr r u:=by
    have:cr u v*w.1=cr w v*u.1:=by grind
    have:cr u v*w.2=cr w v*u.2:=by grind
    unfold cr at *
    grind
   by_cases q:cr u r=0
   ·exact q
   ·by_cases p:cr r v>0
    ·obtain ⟨p1,p2⟩:=hp r hr p
     have m1:=mn (show cr u v≥0 by grind) p2
     have m2:=mp (show -(cr w v)>0 by grind) (show cr r u>0 by grind)
     grind
    ·obtain ⟨p1,p2⟩:=hn r hr (by grind)
     have m1:=mn (show cr u v≥0 by grind) (show -(cr r w)≥0 by grind)
     have m2:=mp (show -(cr w v)>0 by grind) (show -(cr r u)>0 by grind)
     grind
  have id:cr r v*dt u u=cr u v*dt r u:=by
   have:cr r v*dt u u-cr u v*dt r u=cr u r*(-(dt u v)):=by unfold cr dt;grind
   grind
  constructor
  ·intro p
   have m1:=mp p nu
   have:dt r u>0:=by
    by_cases q:dt r u>0
    ·exact q
    ·have:=mn (show cr u v≥0 by grind) (show -(dt r u)≥0 by grind);grind
   have:=mp a0 this
   grind
  ·intro p
   have m1:=mp (show -(cr r v)>0 by grind) nu
   have:-(dt r u)>0:=by
    by_cases q:-(dt r u)>0
    ·exact q
    ·have:=mn (show cr u v≥0 by grind) (show dt r u≥0 by grind);grind
   have:=mp a0 this
   grind
end
theorem MW {u w s:V2}(nu:nz u)(nw:nz w)(ns:nz s)(o:oz s u/\oz u w\/oz u w/\oz w s\/oz w s/\oz s u)
  (a:cr u s>0)(b:cr s w>0)(c:cr u w>0):False:=by
 have e2:=zH u w s
 have e1:=GH u w s
 have s1:=ck u s
 have s2:=ck s w
 rcases jQ nu with hu|hu<;>rcases jQ nw with hw|hw<;>rcases jQ ns with hs|hs
 ·rcases o with ⟨p,q⟩|⟨p,q⟩|⟨p,q⟩
  ·have:=dH hs hu p;grind
  ·have:=dH hw hs q;grind
  ·have:=dH hw hs p;grind
 ·unfold up at hu hw
  unfold dn at hs
  have m1:=mn (show cr u s≥0 by grind) (show w.2≥0 by grind)
  have m2:=mn (show cr s w≥0 by grind) (show u.2≥0 by grind)
  have m3:=mn (show cr u w≥0 by grind) (show -s.2≥0 by grind)
  have z1:cr u s*w.2=0:=by grind
  have z2:cr s w*u.2=0:=by grind
  have w2:w.2=0:=by rcases Rat.mul_eq_zero.1 z1 with h|h<;>grind
  have u2:u.2=0:=by rcases Rat.mul_eq_zero.1 z2 with h|h<;>grind
  unfold cr at c
  rw [w2,u2] at c
  grind
 ·rcases o with ⟨p,q⟩|⟨p,q⟩|⟨p,q⟩
  ·have:=dH hs hu p;grind
  ·exact bT hw hs q
  ·exact bT hw hs p
 ·rcases o with ⟨p,q⟩|⟨p,q⟩|⟨p,q⟩
  ·exact bT hs hu p
  ·have:=du hw hs q;grind
  ·exact bT hs hu q
 ·rcases o with ⟨p,q⟩|⟨p,q⟩|⟨p,q⟩
  ·exact bT hu hw q
  ·exact bT hu hw p
  ·have:=dH hw hs p;grind
 ·rcases o with ⟨p,q⟩|⟨p,q⟩|⟨p,q⟩
  ·exact bT hu hw q
  ·exact bT hu hw p
  ·have:=du hs hu q;grind
 ·unfold dn at hu hw
  unfold up at hs
  have m1:=mn (show cr u s≥0 by grind) (show -w.2≥0 by grind)
  have m2:=mn (show cr s w≥0 by grind) (show -u.2≥0 by grind)
  have m3:=mn (show cr u w≥0 by grind) (show s.2≥0 by grind)
  have z1:cr u s*w.2=0:=by grind
  have z2:cr s w*u.2=0:=by grind
  have w2:w.2=0:=by rcases Rat.mul_eq_zero.1 z1 with h|h<;>grind
  have u2:u.2=0:=by rcases Rat.mul_eq_zero.1 z2 with h|h<;>grind
  unfold cr at c
  rw [w2,u2] at c
  grind
 ·rcases o with ⟨p,q⟩|⟨p,q⟩|⟨p,q⟩
  ·have:=du hs hu p;grind
  ·have:=du hw hs q;grind
  ·have:=du hw hs p;grind
theorem JW {u w s:V2}(nu:nz u)(nw:nz w)(ns:nz s)(o:oz s u/\oz u w\/oz u w/\oz w s\/oz w s/\oz s u)
  (a:cr u s>0)(c:cr u w<=0):False:=by
 have s1:=ck u s
 rcases jQ nu with hu|hu<;>rcases jQ ns with hs|hs
 ·rcases o with ⟨p,q⟩|⟨p,q⟩|⟨p,q⟩
  ·have:=dH hs hu p;grind
  ·rcases jQ nw with hw|hw
   ·have:=dH hu hw p;grind
   ·exact bT hw hs q
  ·have:=dH hs hu q;grind
 ·rcases o with ⟨p,q⟩|⟨p,q⟩|⟨p,q⟩
  ·exact bT hs hu p
  ·rcases jQ nw with hw|hw
   ·have:=dH hu hw p;grind
   ·exact b2 hu hs hw c (du hw hs q) (by grind)
  ·exact bT hs hu q
 ·rcases o with ⟨p,q⟩|⟨p,q⟩|⟨p,q⟩
  ·rcases jQ nw with hw|hw
   ·exact bT hu hw q
   ·have:=du hu hw q;grind
  ·rcases jQ nw with hw|hw
   ·exact bT hu hw p
   ·have:=du hu hw p;grind
  ·rcases jQ nw with hw|hw
   ·exact b4 hu hs hw c (dH hw hs p) (by grind)
   ·exact bT hw hs p
 ·rcases o with ⟨p,q⟩|⟨p,q⟩|⟨p,q⟩
  ·have:=du hs hu p;grind
  ·rcases jQ nw with hw|hw
   ·exact bT hu hw p
   ·have:=du hu hw p;grind
  ·have:=du hs hu q;grind
section
variable {D:List V2} (h:AD D)
include h
theorem QV {i k:Nat}{u w s:V2}(hi:D[i]?=some u)(hw:D[(i+1)%D.length]?=some w)(hk:D[k]?=some s)
  (n1:k≠i)(n2:k≠(i+1)%D.length):oz s u/\oz u w\/oz u w/\oz w s\/oz w s/\oz s u:=by
 have li:i<D.length:=(List.getElem?_eq_some_iff.1 hi).1
 have lk:k<D.length:=(List.getElem?_eq_some_iff.1 hk).1
 by_cases hl:i+1<D.length
 ·rw [Nat.mod_eq_of_lt hl] at hw n2
  by_cases hlt:k<i
  ·exact .inl ⟨jH h hk hi hlt,jH h hi hw (by omega)⟩
  ·exact .inr (.inl ⟨jH h hi hw (by omega),jH h hw hk (by omega)⟩)
 ·have:i+1=D.length:=by omega
  rw [this,Nat.mod_self] at hw n2
  exact .inr (.inr ⟨jH h hw hk (by omega),jH h hk hi (by omega)⟩)
theorem LZ {i:Nat}{u w v':V2}(hi:D[i]?=some u)(hw:D[(i+1)%D.length]?=some w)(hs:qL u w v') :
  ∀r∈D,cr r v'≠0:=by
 intro r hr z
 have hu:u∈D:=List.mem_of_getElem? hi
 have N0:w∈D:=List.mem_of_getElem? hw
 have nu:=sq_pos (h.nz u hu)
 have nr:=sq_pos (h.nz r hr)
 rcases hs with ⟨c,a,b,a0,b0,rfl⟩|⟨c,a,a0,rfl⟩
 ·
  have key:∀s∈D,cr s (wS a u b w)=0->cr u s>0->False:=fun s hs z p=>by
   have s1:=ck u s
   rw [rk,s1] at z
   have q:cr s w>0:=by
    by_cases q:cr s w>0
    ·exact q
    ·have:=mp a0 p
     have:=mn (show b≥0 by grind) (show -(cr s w)≥0 by grind)
     grind
   obtain ⟨k,hk⟩:=List.getElem?_of_mem hs
   refine MW (h.nz u hu) (h.nz w N0) (h.nz s hs) (QV h hi hw hk (fun e=>?_) (fun e=>?_)) p q c
   ·rw [e,hi] at hk;cases hk;unfold cr at p;grind
   ·rw [e,hw] at hk;cases hk;unfold cr at q;grind
  by_cases p:cr u r>0
  ·exact key r hr z p
  ·obtain ⟨s,hs,ho⟩:=h.cl r hr
   obtain ⟨k,k0,e1,e2⟩:=jY ho u
   obtain ⟨k',Zz,e3,_⟩:=jY ho (wS a u b w)
   by_cases q:cr u r=0
   ·have s1:=ck u r
    rw [rk,s1,q] at z
    have:b*cr r w=0:=by grind
    have ZM:cr r w=0:=by rcases Rat.mul_eq_zero.1 this with e|e<;>grind
    have j1:=GH u w r
    have j2:=zH u w r
    have:=Ko (h.nz r hr) (c:=cr u w) (by grind) (by grind)
    grind
   ·refine key s hs (by rw [e3,z];grind) ?_
    rw [e2]
    have:=mp k0 (show -(cr u r)>0 by grind)
    grind
 ·have key:∀s∈D,cr u s>0->False:=fun s hs p=>by
   obtain ⟨k,hk⟩:=List.getElem?_of_mem hs
   refine JW (h.nz u hu) (h.nz w N0) (h.nz s hs) (QV h hi hw hk (fun e=>?_) (fun e=>?_)) p c
   ·rw [e,hi] at hk;cases hk;unfold cr at p;grind
   ·rw [e,hw] at hk;cases hk;grind
  rw [rk,C3] at z
  have d0:dt r u=0:=by
   have:a*dt r u=0:=by grind
   rcases Rat.mul_eq_zero.1 this with e|e<;>grind
  have c0:cr u r≠0:=fun e=>by
   have:cr u r*cr u r+dt r u*dt r u=dt u u*dt r r:=by unfold cr dt;grind
   have:=mp nu nr
   grind
  by_cases p:cr u r>0
  ·exact key r hr p
  ·obtain ⟨s,hs,ho⟩:=h.cl r hr
   obtain ⟨k,k0,e1,e2⟩:=jY ho u
   refine key s hs ?_
   rw [e2]
   have:=mp k0 (show -(cr u r)>0 by grind)
   grind
def EJ (D S:List V2):Prop:=(D=[]/\S=[(1,0)])\/D≠[]/\(∀x∈S,∃i u w,D[i]?=some u/\D[(i+1)%D.length]?=some w/\qL u w x) /\
 ∀i u w,D[i]?=some u->D[(i+1)%D.length]?=some w->∃x∈S,qL u w x
theorem qt {S:List V2}(hS:EJ D S):∀x∈S,∀r∈D,cr r x≠0:=by
 rcases hS with ⟨rfl,rfl⟩|⟨_,h1,_⟩
 ·intro x _ r hr;cases hr
 ·intro x hx
  obtain ⟨i,u,w,a,b,c⟩:=h1 x hx
  exact LZ h a b c
theorem JD {S:List V2}(hS:EJ D S){v:V2}(hv:∀r∈D,cr r v≠0) :
  ∃x∈S,∀r∈D,(cr r v>0->cr r x>0)/\(cr r v<0->cr r x<0):=by
 rcases hS with ⟨rfl,rfl⟩|⟨h0,_,h2⟩
 ·exact ⟨_,List.mem_singleton.2 rfl,fun r hr=>by cases hr⟩
 ·obtain ⟨i,u,w,hi,hw,u1,w1,uw,hp,hn⟩:=Tu h hv h0
  obtain ⟨x,hx,hs⟩:=h2 i u w hi hw
  exact ⟨x,hx,fun r hr=>Jy h (List.mem_of_getElem? hi) (List.mem_of_getElem? hw) u1 w1 uw hp hn hs hr⟩
end
theorem MV (x:Rat):∃y:Rat,y≥0/\x<=y/\-x<=y:=by
 by_cases h:x≥0
 ·exact ⟨x,h,by grind,by grind⟩
 ·exact ⟨-x,by grind,by grind,by grind⟩
theorem O8 (v:V2)(hv:nz v)(r:V2)(hr:nz r):∃e:Rat,e>0/\∀t:Rat,0<t->t<=e ->
  (cr r v>0->cr r (wS 1 v t (EB v))>0)/\(cr r v<0->cr r (wS 1 v t (EB v))<0)/\cr r (wS 1 v t (EB v))≠0:=by
 have key:∀t:Rat,cr r (wS 1 v t (EB v))=cr r v+t*dt r v:=fun t=>by rw [rk,C3];grind
 by_cases z:cr r v=0
 ·have d0:dt r v≠0:=fun e=>by
   have:cr r v*cr r v+dt r v*dt r v=dt r r*dt v v:=by unfold cr dt;grind
   have:=mp (sq_pos hr) (sq_pos hv)
   grind
  refine ⟨1,by grind,fun t t0 _=>?_⟩
  rw [key]
  refine ⟨fun h=>by grind,fun h=>by grind,fun h=>?_⟩
  have:t*dt r v=0:=by grind
  rcases Rat.mul_eq_zero.1 this with e|e<;>grind
 ·obtain ⟨y,y0,y1,y2⟩:=MV (dt r v)
  obtain ⟨x,x0,x1,x2⟩:∃x:Rat,x>0/\(cr r v>0->x=cr r v)/\(cr r v<0->x=-(cr r v)):=by
   by_cases p:cr r v>0
   ·exact ⟨cr r v,p,fun _=>rfl,fun h=>by grind⟩
   ·exact ⟨-(cr r v),by grind,fun h=>by grind,fun _=>rfl⟩
  have y3:y+1>0:=by grind
  have inv:(y+1)⁻¹>0:=Rat.inv_pos.2 y3
  refine ⟨x*(y+1)⁻¹,mp x0 inv,fun t t0 te=>?_⟩
  have m1:t*(y+1)<=x:=by
   have:=mn (show x*(y+1)⁻¹-t≥0 by grind) (show y+1≥0 by grind)
   have e:(y+1)⁻¹*(y+1)=1:=Rat.inv_mul_cancel _ (by grind)
   have:x*(y+1)⁻¹*(y+1)=x:=by rw [Rat.mul_assoc,e,Rat.mul_one]
   grind
  have m2:=mn (show t≥0 by grind) (show y-dt r v≥0 by grind)
  have m3:=mn (show t≥0 by grind) (show y+dt r v≥0 by grind)
  rw [key]
  refine ⟨fun h=>?_,fun h=>?_,fun h=>?_⟩
  ·have:=x1 h;grind
  ·have:=x2 h;grind
  ·by_cases p:cr r v>0
   ·have:=x1 p;grind
   ·have:=x2 (by grind);grind
theorem O7 (v:V2)(hv:nz v):∀R:List V2,(∀r∈R,nz r)->∃e:Rat,e>0/\∀t:Rat,0<t->t<=e->∀r∈R,
  (cr r v>0->cr r (wS 1 v t (EB v))>0)/\(cr r v<0->cr r (wS 1 v t (EB v))<0)/\cr r (wS 1 v t (EB v))≠0
 | [],_=>⟨1,by grind,fun t _ _ r hr=>by cases hr⟩
 | r::R,h=>by
  obtain ⟨e,e0,he⟩:=O7 v hv R fun r hr=>h r (List.mem_cons_of_mem _ hr)
  obtain ⟨f,f0,hf⟩:=O8 v hv r (h r (List.mem_cons_self ..))
  obtain ⟨g,g0,g1,g2⟩:∃g:Rat,g>0/\g<=e/\g<=f:=by
   by_cases q:e<=f
   ·exact ⟨e,e0,by grind,q⟩
   ·exact ⟨f,f0,by grind,by grind⟩
  refine ⟨g,g0,fun t t0 tg s hs=>?_⟩
  rcases List.mem_cons.1 hs with rfl|hs
  ·exact hf t t0 (by grind)
  ·exact he t t0 (by grind) s hs
theorem Mf (v:V2)(hv:nz v)(R:List V2)(h:∀r∈R,nz r):∃x:V2,∀r∈R,
  (cr r v>0->cr r x>0)/\(cr r v<0->cr r x<0)/\cr r x≠0:=by
 obtain ⟨e,e0,he⟩:=O7 v hv R h
 exact ⟨_,he e e0 (by grind)⟩
end Go.Proofs.Tryz.aw
namespace Go.Proofs.Tryz
open Go.bL
def wE (V:View)(g:Nat)(y:Value):Prop:=V.at ⟨g,0,none⟩ y
theorem wE.le {V V':View}{g:Nat}{y:Value}(h:wE V g y)(l:V.Le V'):wE V' g y:=l.at h
def MR (y:Value):Prop:=∃a:Addr,y=.iface 315 (.pointer (some a))
section
open Go.RowKit Go.Extern.Stop Go.Stop Go.Extern
end
end Go.Proofs.Tryz
namespace Go.bL
open Go.fN
theorem ar {x:Int}(h:-9223372036854775808<=x/\x<=9223372036854775807):i64.wrap x=x:=IntWalk.i64_in x h
theorem aL {x:Int}(h:0<=x/\x<=18446744073709551615):u64.wrap x=x:=IntWalk.u64_in x h
theorem qA {x:Int}(h:0<=x/\x<=4294967295):u32.wrap x=x:=IntWalk.u32_in x h
theorem iu (x:Int):u32.wrap x=x%4294967296:=by rw [IntKind.wrap_u32]
theorem rI (x:Int):u64.wrap x=x%18446744073709551616:=by rw [IntKind.wrap_u64]
theorem lU {x:Int}:x.fdiv (2^32)=x / 4294967296:=by rw [Int.fdiv_eq_ediv_of_nonneg _ (by decide)];rfl
theorem HM {x:Int}:x.fdiv (2^63)=x / 9223372036854775808:=by rw [Int.fdiv_eq_ediv_of_nonneg _ (by decide)];rfl
theorem BK (a b:Nat)(ha:a<4294967296)(hb:b<4294967296):aS .or .u64 ((a:Int)*4294967296) (b:Int)=(a:Int)*4294967296+b:=by
 have h1:((a:Int)*4294967296)=((a*2^32:Nat):Int):=by simp
 rw [aS,h1,rI]
 have h2:(BitVec.ofInt IntKind.u64.bits ((a*2^32:Nat):Int) ||| BitVec.ofInt IntKind.u64.bits (b:Int)).toNat=a*2^32+b:=by
  show (BitVec.ofInt 64 ((a*2^32:Nat):Int) ||| BitVec.ofInt 64 (b:Int)).toNat=_
  rw [BitVec.ofInt_natCast,BitVec.ofInt_natCast,BitVec.toNat_or,BitVec.toNat_ofNat,BitVec.toNat_ofNat,Nat.mod_eq_of_lt (by omega),Nat.mod_eq_of_lt (by omega)]
  have:=Nat.shiftLeft_add_eq_or_of_lt (b:=b) (i:=32) (by omega) a
  rw [Nat.shiftLeft_eq] at this
  exact this.symm
 rw [h2]
 omega
def aF (ds:List Nat):List Value:=ds.map fun (d:Nat)=>Value.int .u32 (d:Int)
@[simp] theorem Pl (ds:List Nat):(aF ds).length=ds.length:=by simp [aF]
theorem br (ds:List Nat)(i x:Nat):(aF ds).set i (.int .u32 (x:Int))=aF (ds.set i x):=by simp [aF,List.map_set]
theorem cL (n:Nat):List.replicate n (Value.int .u32 0)=aF (List.replicate n 0):=by simp [aF]
theorem fA {ds:List Nat}{i:Nat}(h:i<ds.length):(aF ds)[i]?=some (.int .u32 (ds[i]:Int)):=by simp [aF,h]
theorem yI (ds:List Nat)(k:Nat):aF (ds.take k)=(aF ds).take k:=by simp [aF,List.map_take]
theorem FB (ds:List Nat)(k:Nat):aF (ds.drop k)=(aF ds).drop k:=by simp [aF,List.map_drop]
theorem sB (a b:List Nat):aF (a++b)=aF a++aF b:=by simp [aF]
theorem View.Le.sl {V V':View}(h:V.Le V'){a:OA}{xs:List Value}(hs:V.sl a xs):V'.sl a xs:=
 fun i v hv=>let ⟨ad,e,ha⟩:=hs i v hv;⟨ad,e,h.at ha⟩
structure RD (V:View) (p:OA) (n c:Nat) (ds:List Nat):Prop where
 len:n=ds.length
 cap:n<=c
 sl:V.sl p (aF ds)
 eJ:bW ds
 BG:p.isNone=true->c=0
theorem RD.le {V V':View}{p:OA}{n c:Nat}{ds:List Nat}(h:RD V p n c ds)(l:V.Le V'):RD V' p n c ds:=⟨h.len,h.cap,l.sl h.sl,h.eJ,h.BG⟩
theorem RD.nil {V:View}:RD V none 0 0 []:=⟨rfl,Nat.le_refl _,fun i v h=>by simp [aF] at h,bW.nil,fun _=>rfl⟩
theorem RD.take {V:View}{p:OA}{n c:Nat}{ds:List Nat}(h:RD V p n c ds){k:Nat}(hk:k<=n):RD V p k c (ds.take k):=by
 have:=h.len
 refine ⟨by simp;omega,by have:=h.cap;omega,fun i v hv=>h.sl i v ?_,h.eJ.take k,h.BG⟩
 rw [yI] at hv
 rw [List.getElem?_take] at hv
 split at hv
 ·exact hv
 ·cases hv
theorem RD.rd {V:View}{p:OA}{n c:Nat}{ds:List Nat}(h:RD V p n c ds){i:Int}{K:Int->Prop}(j:Nat)(hj:i=j)(hn:j<ds.length)
  (hK:K ((ds[j]:Nat):Int)):(p.isSome=true)/\(0<=i/\i<(n:Int))/\∃x:Int,(∃a,ah p (i.toNat*1)=some a/\V.at a (.int .u32 x))/\K x:=by
 obtain ⟨ad,e,ha⟩:=h.sl j _ (fA hn)
 have:=h.len
 subst hj
 refine ⟨by rw [e];rfl,⟨by omega,by omega⟩,_,⟨ad.add j,?_,ha⟩,hK⟩
 rw [e];simp [ah]
theorem cW {V:View}{b:Nat}{xs:List Value}{ty:TypeId}{m:Nat×Nat}(h:V.bF b (.cells xs.toArray ty m)){i:Nat}{v:Value}(hv:xs[i]?=some v):V.at ⟨b,i,none⟩ v:=by
 refine ⟨h.1,?_⟩
 unfold World.cell?
 rw [h.2]
 simpa using hv
theorem add_zero' (b i:Nat):(⟨b,0,none⟩:Addr).add i=⟨b,i,none⟩:=by
 unfold Addr.add
 split
 ·rename_i h;simp_all
 ·simp
theorem RD.bF {V:View}{b:Nat}{ds:List Nat}{ty:TypeId}{m:Nat×Nat}(h:V.bF b (.cells (aF ds).toArray ty m))(hd:bW ds){n c:Nat}(hn:n=ds.length)(hc:n<=c):RD V (some ⟨b,0,none⟩) n c ds:=
 ⟨hn,hc,fun i v hv=>⟨_,rfl,by rw [add_zero'];exact cW h hv⟩,hd,fun e=>nomatch e⟩
end Go.bL
namespace Go.fN
def bj (n:Nat):Nat:=if n=0 then 0 else n.log2+1
theorem pZ (n:Nat):n<2^bj n:=by
 unfold bj;split
 ·subst_vars;decide
 ·exact Nat.lt_log2_self
theorem pW {n:Nat}(h:n≠0):2^(bj n-1)<=n:=by
 unfold bj;rw [if_neg h];exact Nat.log2_self_le h
theorem rQ {n b:Nat}(h0:n<2^b)(h1:b=0\/2^(b-1)<=n):bj n=b:=by
 rcases h1 with h1|h1
 ·subst h1;have:n=0:=by simpa using h0
  subst this;rfl
 ·have hn:n≠0:=by have:=Nat.two_pow_pos (b-1);omega
  have g0:=pZ n
  have g1:=pW hn
  have e1:¬bj n<b:=fun h=>by have:=Nat.pow_le_pow_right (n:=2) (by omega) (show bj n<=b-1 by omega);omega
  have e2:¬b<bj n:=fun h=>by have:=Nat.pow_le_pow_right (n:=2) (by omega) (show b<=bj n-1 by omega);omega
  omega
theorem gj {n b:Nat}:bj n<=b↔n<2^b:=by
 constructor
 ·intro h;exact Nat.lt_of_lt_of_le (pZ n) (Nat.pow_le_pow_right (by omega) h)
 ·intro h
  rcases Nat.lt_or_ge b (bj n) with h'|h'
  ·have hn:n≠0:=by intro e;subst e;simp [bj] at h'
   have:=pW hn
   have:=Nat.pow_le_pow_right (n:=2) (by omega) (show b<=bj n-1 by omega)
   omega
  ·exact h'
theorem ue {n k:Nat}(h:2^k<=n):bj (n / 2^k)+k=bj n:=by
 have hp:=Nat.two_pow_pos k
 have hq:n / 2^k≠0:=by have:=Nat.div_pos h hp;omega
 have g0:=pZ (n / 2^k)
 have g1:=pW hq
 refine (rQ ?_ (.inr ?_)).symm
 ·rw [Nat.pow_add];exact (Nat.div_lt_iff_lt_mul hp).1 g0
 ·have hb:0<bj (n / 2^k):=by unfold bj;rw [if_neg hq];omega
  rw [show bj (n / 2^k)+k-1=bj (n / 2^k)-1+k from by omega,Nat.pow_add]
  exact (Nat.le_div_iff_mul_le hp).1 g1
end Go.fN
namespace Go.Proofs.Tryz
open Go.bL Go.fN
theorem fr (a k:Nat):((a:Nat):Int).fdiv (2^k)=((a / 2^k:Nat):Int):=by
 rw [Int.fdiv_eq_ediv_of_nonneg _ (by have:=Int.pow_pos (n:=2) (m:=k) (by omega);omega)]
 simp
def BA:ByteArray:=⟨#[0,1,2,2,3,3,3,3,4,4,4,4,4,4,4,4,5,5,5,5,5,5,5,5,5,5,5,5,5,5,5,5,6,6,6,6,6,6,6,6,6,6,6,6,6,6,6,6,6,6,6,6,6,6,6,6,6,6,6,6,6,6,6,6,7,7,7,7,7,7,7,7,7,7,7,7,7,7,7,7,7,7,7,7,7,7,7,7,7,7,7,7,7,7,7,7,7,7,7,7,7,7,7,7,7,7,7,7,7,7,7,7,7,7,7,7,7,7,7,7,7,7,7,7,7,7,7,7,8,8,8,8,8,8,8,8,8,8,8,8,8,8,8,8,8,8,8,8,8,8,8,8,8,8,8,8,8,8,8,8,8,8,8,8,8,8,8,8,8,8,8,8,8,8,8,8,8,8,8,8,8,8,8,8,8,8,8,8,8,8,8,8,8,8,8,8,8,8,8,8,8,8,8,8,8,8,8,8,8,8,8,8,8,8,8,8,8,8,8,8,8,8,8,8,8,8,8,8,8,8,8,8,8,8,8,8,8,8,8,8,8,8,8,8,8,8,8,8,8,8,8,8,8,8,8,8]⟩
set_option maxRecDepth 10000 in
theorem Iw {V:View}(x:Nat)(hx:x<4294967296) :
  ab prog 219 #[.int .u32 (x:Int)] V fun r V'=>r=.int .i64 (bj x:Int):=by
 refine ph _ V _ ⟨fun z _=>∃y b:Nat,z=((y:Int),(b:Int))/\y<65536/\b<=16/\bj x=bj y+b,⟨fun h0=>⟨by omega,?_⟩,fun h0=>?_⟩,?_⟩
 ·rw [fr]
  have h0:2^16<=x:=by simp at h0;omega
  exact ⟨_,⟨rfl,rfl⟩,x / 2^16,16,rfl,by omega,by omega,(ue h0).symm⟩
 ·exact ⟨_,⟨rfl,rfl⟩,x,0,rfl,by simp at h0;omega,by omega,rfl⟩
 ·rintro _ V1 l1 ⟨y,b,rfl,hy,hb,e⟩
  rw [e];clear e
  refine ⟨by trivial,fun z _=>∃y' b':Nat,z=((y':Int),(b':Int))/\y'<256/\b'<=24/\bj y+b=bj y'+b',⟨fun h0=>⟨by omega,?_⟩,fun h0=>?_⟩,?_⟩
  ·dsimp only at h0 ⊢
   rw [fr]
   simp (disch:=omega) only [ar]
   have h0:2^8<=y:=by simp at h0;omega
   exact ⟨(((y / 2^8:Nat):Int),(b:Int)+8),⟨rfl,rfl⟩,y / 2^8,b+8,by simp,by omega,by omega,by have:=ue h0;omega⟩
  ·exact ⟨_,⟨rfl,rfl⟩,y,b,rfl,by simp at h0;omega,by omega,rfl⟩
  ·rintro _ V2 l2 ⟨y,b,rfl,hy,hb,e⟩
   rw [e];clear e
   have hw:IntKind.u8.wrap (y:Int)=y:=IntWalk.u8_in _ (by omega)
   dsimp only
   rw [hw]
   have hsz:(BA.size:Int)=256:=rfl
   refine ⟨by trivial,⟨by omega,by show (y:Int)<(BA.size:Int);rw [hsz];omega⟩,fun V3 l3=>?_⟩
   show Value.int .i64 (i64.wrap (b+i64.wrap ((BA.data.toList.getD (y:Int).toNat 0).toNat:Int)))=_
   congr 1
   have key:∀y:Nat,y<256->(BA.data.toList.getD y 0).toNat=bj y:=by decide +kernel
   have hbl:bj y<=8:=gj.2 (by omega)
   have:=key y hy
   rw [Int.toNat_natCast,this]
   simp (disch:=omega) only [ar]
   omega
theorem fO {V:View}(x:Nat)(hx:x<4294967296) :
  ab prog 197 #[.int .u32 (x:Int)] V fun r V'=>r=.int .i64 (32-(bj x:Int)):=by
 refine iA _ V _ fun V1 l1=>(Iw x hx).mono ?_
 rintro r V2 l2 rfl
 have hbl:bj x<=32:=gj.2 (by omega)
 refine ⟨_,rfl,fun V3 l3=>?_⟩
 simp (disch:=omega) only [ar]
theorem D5 (a:Nat)(ha:a<18446744073709551616):aS .and .u64 (a:Int) 4294967295=((a%4294967296:Nat):Int):=by
 rw [aS,rI]
 have h2:(BitVec.ofInt IntKind.u64.bits ((a:Nat):Int) &&& BitVec.ofInt IntKind.u64.bits 4294967295).toNat=a%4294967296:=by
  show (BitVec.ofInt 64 ((a:Nat):Int) &&& BitVec.ofInt 64 ((4294967295:Nat):Int)).toNat=_
  rw [BitVec.ofInt_natCast,BitVec.ofInt_natCast,BitVec.toNat_and,BitVec.toNat_ofNat,BitVec.toNat_ofNat,Nat.mod_eq_of_lt (by omega),Nat.mod_eq_of_lt (by omega)]
  have:=Nat.and_two_pow_sub_one_eq_mod a 32
  exact this
 rw [h2]
 omega
theorem BE (a b c d:Nat)(ha:a<4294967296)(hb:b<4294967296)(hc:c<4294967296)(hd:d<4294967296) :
  a*c+(a*d+b*d / 4294967296) / 4294967296+((a*d+b*d / 4294967296)%4294967296+b*c) / 4294967296=(a*4294967296+b)*(c*4294967296+d) / 18446744073709551616 /\
  a*c<=18446744065119617025/\a*d<=18446744065119617025/\b*c<=18446744065119617025/\b*d<=18446744065119617025:=by
 have h1:a*c<=4294967295*4294967295:=Nat.mul_le_mul (by omega) (by omega)
 have h2:a*d<=4294967295*4294967295:=Nat.mul_le_mul (by omega) (by omega)
 have h3:b*c<=4294967295*4294967295:=Nat.mul_le_mul (by omega) (by omega)
 have h4:b*d<=4294967295*4294967295:=Nat.mul_le_mul (by omega) (by omega)
 have e:(a*4294967296+b)*(c*4294967296+d)=(a*c)*18446744073709551616+(a*d)*4294967296+(b*c)*4294967296+b*d:=by grind
 rw [e]
 generalize a*c=p at *
 generalize a*d=q at *
 generalize b*c=r at *
 generalize b*d=s at *
 refine ⟨by omega,by omega,by omega,by omega,by omega⟩
theorem Iy {V:View}(x y:Nat)(hx:x<18446744073709551616)(hy:y<18446744073709551616) :
  ab prog 236 #[.int .u64 (x:Int),.int .u64 (y:Int)] V fun r V'=>r=.tuple #[.int .u64 ((x*y / 18446744073709551616:Nat):Int),.int .u64 ((x*y%18446744073709551616:Nat):Int)]:=by
 refine pk _ _ V _ ⟨by omega,by omega,by omega,by omega,by omega,fun V1 l1=>?_⟩
 have p:=BE (x / 4294967296) (x%4294967296) (y / 4294967296) (y%4294967296) (by omega) (by omega) (by omega) (by omega)
 rw [Nat.div_add_mod' x 4294967296,Nat.div_add_mod' y 4294967296] at p
 obtain ⟨p1,p2,p3,p4,p5⟩:=p
 have hlo:u64.wrap ((x:Int)*y)=((x*y%18446744073709551616:Nat):Int):=by rw [rI];simp
 rw [hlo,D5 x hx,D5 y hy,lU,lU]
 rw [←p1]
 have hA:((x:Int) / 4294967296)*((y:Int) / 4294967296)=((x / 4294967296*(y / 4294967296):Nat):Int):=by simp
 have hB:((x:Int) / 4294967296)*((y%4294967296:Nat):Int)=((x / 4294967296*(y%4294967296):Nat):Int):=by simp
 have hC:((x%4294967296:Nat):Int)*((y:Int) / 4294967296)=((x%4294967296*(y / 4294967296):Nat):Int):=by simp
 have hD:((x%4294967296:Nat):Int)*((y%4294967296:Nat):Int)=((x%4294967296*(y%4294967296):Nat):Int):=by simp
 rw [hA,hB,hC,hD]
 generalize x / 4294967296*(y / 4294967296)=a at *
 generalize x / 4294967296*(y%4294967296)=b at *
 generalize x%4294967296*(y / 4294967296)=c at *
 generalize x%4294967296*(y%4294967296)=d at *
 simp only [lU]
 have w1:u64.wrap (d:Int)=d:=aL (by omega)
 have w2:u64.wrap (b:Int)=b:=aL (by omega)
 have w3:u64.wrap (c:Int)=c:=aL (by omega)
 have w4:u64.wrap (a:Int)=a:=aL (by omega)
 rw [w1,w2,w3,w4]
 have w5:u64.wrap ((b:Int)+d / 4294967296)=((b+d / 4294967296:Nat):Int):=by rw [aL (by omega)];omega
 rw [w5,D5 _ (by omega)]
 have w6:u64.wrap (((b+d / 4294967296)%4294967296:Nat)+(c:Int))=(((b+d / 4294967296)%4294967296+c:Nat):Int):=by rw [aL (by omega)];omega
 rw [w6]
 have hlt:x*y / 18446744073709551616<18446744073709551616:=by
  have:x*y<18446744073709551616*18446744073709551616:=Nat.mul_lt_mul'' hx hy
  omega
 have w7:u64.wrap ((a:Int)+((b+d / 4294967296:Nat):Int) / 4294967296)=((a+(b+d / 4294967296) / 4294967296:Nat):Int):=by
  rw [aL (by omega)];omega
 rw [w7]
 have w8:u64.wrap (((a+(b+d / 4294967296) / 4294967296:Nat):Int)+(((b+d / 4294967296)%4294967296+c:Nat):Int) / 4294967296)=((a+(b+d / 4294967296) / 4294967296+((b+d / 4294967296)%4294967296+c) / 4294967296:Nat):Int):=by
  rw [aL (by omega)];omega
 rw [w8]
theorem Iu {V:View}(x y c:Nat)(hx:x<4294967296)(hy:y<4294967296)(hc:c<4294967296) :
  ab prog 163 #[.int .u32 (x:Int),.int .u32 (y:Int),.int .u32 (c:Int)] V fun r V'=>r=.tuple #[.int .u32 (((x+y+c)%4294967296:Nat):Int),.int .u32 (((x+y+c) / 4294967296:Nat):Int)]:=by
 refine pf _ _ _ V _ ⟨by omega,fun V1 l1=>?_⟩
 simp (disch:=omega) only [aL,iu,lU]
 have e1:((x:Int)+y+c)%4294967296=(((x+y+c)%4294967296:Nat):Int):=by omega
 have e2:((x:Int)+y+c) / 4294967296%4294967296=(((x+y+c) / 4294967296:Nat):Int):=by omega
 rw [e1,e2]
theorem JV (a b:Nat)(ha:a<4294967296)(hb:b<4294967296):aS .and .u32 (a:Int) (b:Int)=((a &&& b:Nat):Int):=by
 have h2:(BitVec.ofInt IntKind.u32.bits ((a:Nat):Int) &&& BitVec.ofInt IntKind.u32.bits ((b:Nat):Int)).toNat=a &&& b:=by
  show (BitVec.ofInt 32 ((a:Nat):Int) &&& BitVec.ofInt 32 ((b:Nat):Int)).toNat=_
  rw [BitVec.ofInt_natCast,BitVec.ofInt_natCast,BitVec.toNat_and,BitVec.toNat_ofNat,BitVec.toNat_ofNat,Nat.mod_eq_of_lt (by omega),Nat.mod_eq_of_lt (by omega)]
 have h3:a &&& b<2^32:=Nat.and_lt_two_pow a (by omega)
 rw [aS,iu,h2]
 omega
theorem SU (a b:Nat)(ha:a<4294967296)(hb:b<4294967296):aS .or .u32 (a:Int) (b:Int)=((a ||| b:Nat):Int):=by
 have h2:(BitVec.ofInt IntKind.u32.bits ((a:Nat):Int) ||| BitVec.ofInt IntKind.u32.bits ((b:Nat):Int)).toNat=a ||| b:=by
  show (BitVec.ofInt 32 ((a:Nat):Int) ||| BitVec.ofInt 32 ((b:Nat):Int)).toNat=_
  rw [BitVec.ofInt_natCast,BitVec.ofInt_natCast,BitVec.toNat_or,BitVec.toNat_ofNat,BitVec.toNat_ofNat,Nat.mod_eq_of_lt (by omega),Nat.mod_eq_of_lt (by omega)]
 have h3:a ||| b<2^32:=Nat.or_lt_two_pow (by omega) (by omega)
 rw [aS,iu,h2]
 omega
theorem H7 (a b:Nat)(ha:a<4294967296)(hb:b<4294967296):aS .xor .u32 (a:Int) (b:Int)=((a ^^^ b:Nat):Int):=by
 have h2:(BitVec.ofInt IntKind.u32.bits ((a:Nat):Int) ^^^ BitVec.ofInt IntKind.u32.bits ((b:Nat):Int)).toNat=a ^^^ b:=by
  show (BitVec.ofInt 32 ((a:Nat):Int) ^^^ BitVec.ofInt 32 ((b:Nat):Int)).toNat=_
  rw [BitVec.ofInt_natCast,BitVec.ofInt_natCast,BitVec.toNat_xor,BitVec.toNat_ofNat,BitVec.toNat_ofNat,Nat.mod_eq_of_lt (by omega),Nat.mod_eq_of_lt (by omega)]
 have h3:a ^^^ b<2^32:=Nat.xor_lt_two_pow (by omega) (by omega)
 rw [aS,iu,h2]
 omega
theorem Pk {n:Nat}(h:n<4294967296):n / 2147483648=if n.testBit 31 then 1 else 0:=by
 rw [Nat.testBit_eq_decide_div_mod_eq]
 have:(2:Nat)^31=2147483648:=by decide
 rw [this]
 split
 ·rename_i h1;simp at h1;omega
 ·rename_i h1;simp at h1;omega
theorem D9 {n:Nat}(h:n<4294967296):n.testBit 31=decide (2147483648<=n):=by
 rw [Nat.testBit_eq_decide_div_mod_eq]
 have:(2:Nat)^31=2147483648:=by decide
 rw [this]
 congr 1
 simp;omega
theorem F6 (x y c:Nat)(hx:x<4294967296)(hy:y<4294967296)(hc:c<=1){d:Nat}(hd:(d:Int)=((x:Int)-y-c)%4294967296) :
  (((4294967295 ^^^ x) &&& y) ||| ((4294967295 ^^^ (x ^^^ y)) &&& d)) / 2147483648=if x<y+c then 1 else 0:=by
 have h1:(4294967295 ^^^ x)<2^32:=Nat.xor_lt_two_pow (by omega) (by omega)
 have h2:x ^^^ y<2^32:=Nat.xor_lt_two_pow (by omega) (by omega)
 have h3:(4294967295 ^^^ (x ^^^ y))<2^32:=Nat.xor_lt_two_pow (by omega) h2
 have h4:(4294967295 ^^^ x) &&& y<2^32:=Nat.and_lt_two_pow _ (by omega)
 have h5:(4294967295 ^^^ (x ^^^ y)) &&& d<2^32:=Nat.and_lt_two_pow _ (by omega)
 have h6:=Nat.or_lt_two_pow h4 h5
 rw [Pk h6]
 have hd':d<4294967296:=by omega
 rw [Nat.testBit_or,Nat.testBit_and,Nat.testBit_and,Nat.testBit_xor,Nat.testBit_xor,Nat.testBit_xor,D9 hx,D9 hy,D9 hd',D9 (n:=4294967295) (by omega)]
 by_cases a1:2147483648<=x<;>by_cases a2:2147483648<=y<;>by_cases a3:2147483648<=d<;>simp [a1,a2,a3]<;>omega
theorem IC {V:View}(x y c:Nat)(hx:x<4294967296)(hy:y<4294967296)(hc:c<=1) :
  ab prog 165 #[.int .u32 (x:Int),.int .u32 (y:Int),.int .u32 (c:Int)] V fun r V'=>∃d b:Nat,r=.tuple #[.int .u32 (d:Int),.int .u32 (b:Int)]/\d<4294967296/\b<=1/\d+(y+c)=x+4294967296*b:=by
 refine po _ _ _ V _ ⟨by omega,fun V1 l1=>?_⟩
 obtain ⟨d,hd⟩:∃d:Nat,(d:Int)=((x:Int)-y-c)%4294967296:=⟨(((x:Int)-y-c)%4294967296).toNat,by omega⟩
 have hd':d<4294967296:=by omega
 have w1:u32.wrap (u32.wrap ((x:Int)-y)-c)=(d:Int):=by rw [iu,iu];omega
 have w2:IntKind.u32.max=((4294967295:Nat):Int):=rfl
 have h1:(4294967295 ^^^ x)<2^32:=Nat.xor_lt_two_pow (by omega) (by omega)
 have h2:x ^^^ y<2^32:=Nat.xor_lt_two_pow (by omega) (by omega)
 have h3:(4294967295 ^^^ (x ^^^ y))<2^32:=Nat.xor_lt_two_pow (by omega) h2
 have h4:(4294967295 ^^^ x) &&& y<2^32:=Nat.and_lt_two_pow _ (by omega)
 have h5:(4294967295 ^^^ (x ^^^ y)) &&& d<2^32:=Nat.and_lt_two_pow _ (by omega)
 rw [w1,w2,H7 _ _ (by omega) hx,JV _ _ h1 hy,H7 _ _ hx hy,H7 _ _ (by omega) h2,JV _ _ h3 hd',SU _ _ h4 h5,fr]
 have e:(2:Nat)^31=2147483648:=by decide
 rw [e,F6 x y c hx hy hc hd]
 refine ⟨d,_,rfl,hd',?_,?_⟩
 ·split<;>omega
 ·split<;>omega
theorem Iv {V:View}(hi lo y:Nat)(hh:hi<y)(hl:lo<4294967296)(hy:y<4294967296) :
  ab prog 161 #[.int .u32 (hi:Int),.int .u32 (lo:Int),.int .u32 (y:Int)] V fun r V'=>r=.tuple #[.int .u32 (((hi*4294967296+lo) / y:Nat):Int),.int .u32 (((hi*4294967296+lo)%y:Nat):Int)]:=by
 have key:∀V1:View,Value.tuple #[.int .u32 (u32.wrap (u64.wrap ((aS .or .u64 (u64.wrap ((u64.wrap (hi:Int))*2^32)) (u64.wrap (lo:Int))).tdiv (u64.wrap (y:Int))))),.int .u32 (u32.wrap ((aS .or .u64 (u64.wrap ((u64.wrap (hi:Int))*2^32)) (u64.wrap (lo:Int))).tmod (u64.wrap (y:Int))))]=.tuple #[.int .u32 (((hi*4294967296+lo) / y:Nat):Int),.int .u32 (((hi*4294967296+lo)%y:Nat):Int)]:=by
  intro _
  have e3:((2:Int)^32)=4294967296:=by decide
  have e1:u64.wrap (hi:Int)=hi:=aL (by omega)
  have e2:u64.wrap (lo:Int)=lo:=aL (by omega)
  have e4:u64.wrap (y:Int)=y:=aL (by omega)
  have e5:u64.wrap ((hi:Int)*4294967296)=(hi:Int)*4294967296:=aL (by omega)
  rw [e1,e3,e5,e2,e4,BK _ _ (by omega) hl]
  have e6:(hi:Int)*4294967296+lo=((hi*4294967296+lo:Nat):Int):=by omega
  rw [e6,←Int.ofNat_tdiv,←Int.ofNat_tmod]
  have hq:(hi*4294967296+lo) / y<4294967296:=by
   rw [Nat.div_lt_iff_lt_mul (by omega)]
   have:(hi+1)*4294967296<=y*4294967296:=Nat.mul_le_mul_right _ hh
   omega
  have hr:(hi*4294967296+lo)%y<y:=Nat.mod_lt _ (by omega)
  generalize (hi*4294967296+lo) / y=q at *
  generalize (hi*4294967296+lo)%y=r at *
  have e7:u64.wrap (q:Int)=q:=aL (by omega)
  have e8:u32.wrap (q:Int)=q:=qA (by omega)
  have e9:u32.wrap (r:Int)=r:=qA (by omega)
  rw [e7,e8,e9]
 have e4:u64.wrap (y:Int)=y:=aL (by omega)
 refine pg _ _ _ V _ ⟨fun _=>⟨fun h=>?_,fun _=>⟨by omega,by rw [e4];omega,by rw [e4];omega,fun V1 l1=>key V1⟩⟩,fun _=>⟨by omega,by rw [e4];omega,by rw [e4];omega,fun V1 l1=>key V1⟩⟩
 simp at h;omega
theorem aX {V:View}{p:OA}{n c:Nat}{ds:List Nat}(h:RD V p n c ds)(hm:ds.length<=4611686018427387904) :
  ab prog 231 #[.slice p n c] V fun r V'=>∃k,r=.slice p k c/\RD V' p k c (cd ds):=by
 refine Ck p n c V _ ?_
 refine ⟨fun z V'=>z.1=p/\z.2.2=c/\z.2.1<=ds.length/\cd (ds.take z.2.1)=cd ds/\RD V' p z.2.1 c (ds.take z.2.1),fun z=>z.2.1,⟨(p,n,c),⟨rfl,rfl,rfl⟩,rfl,rfl,?_⟩,?_⟩
 ·have:=h.len;subst this;simp;exact h
 ·rintro ⟨q,k,c'⟩ V1 l1 ⟨rfl,rfl,hk,ht,hR⟩
  dsimp only at hk ht hR ⊢
  refine ⟨rfl,fun h0=>?_,fun h0=>?_⟩
  ·have h0:0<k:=by simpa using h0
   simp (disch:=omega) only [ar]
   have hl:(ds.take k).length=k:=by simp;omega
   have hs:ds.take k=ds.take (k-1)++[ds[k-1]]:=by rw [←List.take_succ_eq_append_getElem (by omega),Nat.sub_add_cancel h0]
   refine hR.rd (k-1) (by omega) (by omega) ⟨fun hz=>?_,fun hz=>?_⟩
   ·have hz:ds[k-1]=0:=by simpa using hz
    refine ⟨⟨by omega,by have:=hR.cap;omega⟩,(q,k-1,c'),by dsimp only;omega,⟨rfl,by dsimp only;omega,rfl⟩,rfl,rfl,by dsimp only;omega,?_,?_⟩
    ·dsimp only
     rw [←ht,hs,hz,hU]
    ·have:=hR.take (k:=k-1) (by omega)
     dsimp only
     rwa [List.take_take,Nat.min_eq_left (by omega)] at this
   ·have hz:ds[k-1]≠0:=by simpa using hz
    refine fun V2 l2=>⟨k,rfl,?_⟩
    rw [←ht,hs,oZ _ _ hz,←hs]
    exact hR.le l2
  ·have h0:k=0:=by simpa using h0
   subst h0
   refine fun V2 l2=>⟨0,rfl,?_⟩
   rw [←ht]
   exact hR.le l2
theorem mB {V:View}{p:OA}{n c:Nat}{ds:List Nat}(h:RD V p n c ds)(hm:ds.length<=1099511627776) :
  ab prog 233 #[.slice p n c] V fun r V'=>∃q k c',r=.slice q k c'/\RD V' q k c' ds:=by
 have hl:=h.len
 refine tC p n c V _ ⟨fun h0 V1 l1=>⟨_,_,_,rfl,?_⟩,fun h0=>⟨aF ds,h.sl,by simp [hl],by omega,by omega,by simp,by simp [hl],?_,?_⟩⟩
 ·have h0:p=none:=by simpa using h0
  subst h0
  have:ds=[]:=by
   rcases Nat.eq_zero_or_pos ds.length with e|e
   ·exact List.length_eq_zero_iff.1 e
   ·obtain ⟨ad,e,-⟩:=h.sl 0 _ (fA e)
    cases e
  subst this;exact RD.nil
 ·intro v hv
  simp only [aF,List.mem_map] at hv
  obtain ⟨d,-,rfl⟩:=hv
  rfl
 ·intro bk J sp c' h1 h2 V1 l1 b hb
  refine ⟨_,_,_,rfl,?_⟩
  simp only [Nat.zero_add,Nat.zero_mul,List.take_zero,List.nil_append] at hb h1 ⊢
  exact ⟨hl,h1,fun i v hv=>⟨_,rfl,by rw [add_zero'];exact cW hb (by rw [List.getElem?_append_left (by rcases Nat.lt_or_ge i (aF ds).length with e|e;exact e;rw [List.getElem?_eq_none e] at hv;cases hv)];exact hv)⟩,h.eJ,fun e=>nomatch e⟩
abbrev RN (V:View)(p:OA)(n c:Nat)(x:Nat):Prop:=RD V p n c (ai x)
theorem iS {V:View}{p:OA}{n c:Nat}{ds:List Nat}(h:RD V p n c ds)(hm:ds.length<=1099511627776) :
  ab prog 196 #[.slice p n c] V fun r V'=>∃q k c',r=.slice q k c'/\RN V' q k c' (val ds):=by
 refine Cg p n c V _ fun V1 l1=>(aX (h.le l1) (by omega)).mono ?_
 rintro r V2 l2 ⟨k,rfl,h2⟩
 refine ⟨_,_,_,rfl,fun V3 l3=>(mB (h2.le l3) (by have:=kL ds;omega)).mono ?_⟩
 rintro r V4 l4 ⟨q,k',c',rfl,h4⟩
 refine ⟨_,_,_,rfl,fun V5 l5=>⟨_,_,_,rfl,?_⟩⟩
 unfold RN
 rw [←aR h.eJ]
 exact h4.le l5
theorem zf {V:View}{p:OA}{n c:Nat}{ds:List Nat}(h:RD V p n c ds)(hm:ds.length<=1099511627776) :
  ab prog 207 #[.slice p n c] V fun r V'=>r=.bool (decide (ai (val ds)=ds)):=by
 have hl:=h.len
 refine xm p n c V _ ⟨fun h0 V1 l1=>?_,fun h0=>?_⟩
 ·have:ds=[]:=List.length_eq_zero_iff.1 (by simp at h0;omega)
  subst this;rfl
 ·have h0:0<n:=by simp at h0;omega
  simp (disch:=omega) only [ar]
  refine h.rd (n-1) (by omega) (by omega) fun V1 l1=>?_
  congr 1
  rw [Bool.eq_iff_iff]
  simp only [bne_iff_ne,ne_eq,decide_eq_true_eq]
  subst hl
  constructor
  ·intro hz
   exact uC h.eJ (BH fun _=>by simpa using hz)
  ·intro he hz
   have:sI ds:=by rw [←he];exact ja _
   exact this.last (by omega) (by simpa using hz)
theorem dI {V:View}(u:Int)(h0:0<=u)(h1:u<18446744073709551616) :
  ab prog 221 #[.int .u64 u] V fun r V'=>∃q k c',r=.slice q k c'/\RN V' q k c' u.toNat:=by
 obtain ⟨u,rfl⟩:=Int.eq_ofNat_of_zero_le h0
 refine tv _ V _ ⟨by omega,fun V1 l1 bk hb=>?_⟩
 rw [lU,iu,qA (by omega)] at hb
 have hb:V1.bF bk (.cells (aF [u%4294967296,u / 4294967296]).toArray 186 (0,0)):=by
  simpa [aF] using hb
 have hd:bW [u%4294967296,u / 4294967296]:=by simp [bW];omega
 refine (aX (RD.bF hb hd (n:=2) (c:=2) rfl (Nat.le_refl _)) (by simp)).mono ?_
 rintro r V2 l2 ⟨k,rfl,h2⟩
 refine ⟨_,_,_,rfl,fun _ V3 l3=>⟨_,_,_,rfl,?_⟩⟩
 rw [aR hd] at h2
 have:val [u%4294967296,u / 4294967296]=(u:Int).toNat:=by simp;omega
 rw [this] at h2
 exact h2.le l3
theorem xT {V:View}{p q:OA}{n c m e:Nat}{xa xb:List Nat}(ha:RD V p n c xa)(hb:RD V q m e xb)(hm:xa.length<=1099511627776)(hn:xb.length<=1099511627776) :
  ab prog 232 #[.slice p n c,.slice q m e] V fun r V'=>r=.int .i64 (ky (val xa) (val xb)):=by
 have la:=kL xa
 have lb:=kL xb
 refine DL p n c q m e V _ fun V1 l1=>(aX (ha.le l1) (by omega)).mono ?_
 rintro r V2 l2 ⟨n,rfl,h1⟩
 refine ⟨_,_,_,rfl,fun V3 l3=>(aX (hb.le (l1.trans (l2.trans l3))) (by omega)).mono ?_⟩
 rintro r V4 l4 ⟨m,rfl,h2⟩
 refine ⟨_,_,_,rfl,?_⟩
 replace h1:=h1.le (l3.trans l4)
 rw [aR ha.eJ] at h1 la
 rw [aR hb.eJ] at h2 lb
 generalize val xa=x at *
 generalize val xb=y at *
 have hl1:=h1.len
 have hl2:=h2.len
 refine ⟨fun h0=>⟨fun h3 V5 l5=>?_,fun h3 V5 l5=>?_⟩,fun h0=>?_⟩
 ·have:=kE (a:=x) (b:=y) (by simp at h3;omega)
  rw [ky,if_pos this]
 ·have:=kE (a:=y) (b:=x) (by simp at h0 h3;omega)
  rw [ky,if_neg (by omega),if_pos this]
 ·have h0:n=m:=by simp at h0;omega
  subst h0
  simp (disch:=omega) only [ar]
  refine ⟨fun z V'=>-1<=z/\z<n/\(ai x).drop (z+1).toNat=(ai y).drop (z+1).toNat,fun z=>(z+1).toNat,⟨_,by (try dsimp only);and_intros<;>trivial,by (try dsimp only);omega,by (try dsimp only);omega,?_⟩,?_⟩
  ·(try dsimp only)
   rw [List.drop_of_length_le (by omega),List.drop_of_length_le (by omega)]
  ·rintro i V7 l7 ⟨hi0,hi1,hd⟩
   dsimp only at hi0 hi1 hd ⊢
   refine ⟨by trivial,fun h3=>?_,fun h3 V5 l5=>?_⟩
   ·have h3:0<=i:=by simpa using h3
    obtain ⟨i,rfl⟩:=Int.eq_ofNat_of_zero_le h3
    simp (disch:=omega) only [ar]
    have hd':(ai x).drop (i+1)=(ai y).drop (i+1):=hd
    refine (h1.le l7).rd i rfl (by omega) ((h2.le l7).rd i rfl (by omega) ⟨fun h4 V8 l8=>?_,fun h4=>?_⟩)
    ·have:=jI (aE x) (by omega) (by omega) hd' (by simpa using h4)
     rw [ag,ag] at this
     rw [ky,if_pos this]
    ·refine (h1.le l7).rd i rfl (by omega) ((h2.le l7).rd i rfl (by omega) ⟨fun h5 V8 l8=>?_,fun h5=>?_⟩)
     ·have:=jI (aE y) (by omega) (by omega) hd'.symm (by simpa using h5)
      rw [ag,ag] at this
      rw [ky,if_neg (by omega),if_pos this]
     ·refine ⟨_,?_,by (try dsimp only);and_intros<;>trivial,?_,?_,?_⟩
      ·(try dsimp only);omega
      ·(try dsimp only);omega
      ·(try dsimp only);omega
      ·(try dsimp only)
       have:((i:Int)-1+1).toNat=i:=by omega
       rw [this,List.drop_eq_getElem_cons (by omega),List.drop_eq_getElem_cons (l:=ai y) (by omega),hd']
       congr 1
       simp at h4 h5
       omega
   ·have h3:i=-1:=by simp at h3;omega
    subst h3
    have:ai x=ai y:=by simpa using hd
    have:=uB this
    subst this
    simp [ky]
theorem tV {E A B c d x y W:Nat}(h:E+W*c=A+B)(hd:d=c+x+y):E+W*(d%4294967296)+W*4294967296*(d / 4294967296)=A+W*x+(B+W*y):=by
 have h1:W*(d%4294967296)+W*4294967296*(d / 4294967296)=W*d:=by
  rw [Nat.mul_assoc,←Nat.mul_add,Nat.mod_add_div]
 rw [Nat.add_assoc,h1,hd,Nat.mul_add,Nat.mul_add]
 omega
theorem EW {V:View}{p q:OA}{n c m e:Nat}{xa xb:List Nat}(ha:RD V p n c xa)(hb:RD V q m e xb)(hm:xa.length<=1099511627776)(hn:xb.length<=1099511627776) :
  ab prog 238 #[.slice p n c,.slice q m e] V fun r V'=>∃p' n' c',r=.slice p' n' c'/\RN V' p' n' c' (val xa+val xb):=by
 have hla:=ha.len
 have hlb:=hb.len
 refine DJ p n c q m e V _ ⟨fun z V'=>∃xs ys,RD V' z.1 z.2.1 z.2.2.1 xs/\RD V' z.2.2.2.1 z.2.2.2.2.1 z.2.2.2.2.2 ys/\ys.length<=xs.length/\xs.length<=1099511627776/\val xs+val ys=val xa+val xb,⟨fun h0=>?_,fun h0=>?_⟩,?_⟩
 ·exact ⟨(_,_,_,_,_,_),by (try dsimp only);and_intros<;>trivial,xb,xa,hb,ha,by simp at h0;omega,hn,by omega⟩
 ·exact ⟨(_,_,_,_,_,_),by (try dsimp only);and_intros<;>trivial,xa,xb,ha,hb,by simp at h0;omega,hm,rfl⟩
 ·rintro ⟨p,n,c,q,m,e⟩ V1 l1 ⟨xs,ys,hx,hy,hl,hm,hv⟩
  dsimp only at hx hy ⊢
  rw [←hv]
  clear hv ha hb hla hlb
  have hlx:=hx.len
  have AF:=hy.len
  simp (disch:=omega) only [ar,cL]
  have hn1:((n:Int)+1).toNat=n+1:=by omega
  rw [hn1]
  refine ⟨by trivial,by omega,by omega,by omega,fun z V'=>0<=z.1/\z.1<=1/\0<=z.2.1/\z.2.1<=n/\∃es:List Nat,z.2.2=aF es/\es.length=n+1/\bW es /\
   val (es.take z.2.1.toNat)+4294967296^z.2.1.toNat*z.1.toNat=val (xs.take z.2.1.toNat)+val (ys.take z.2.1.toNat),fun z=>n-z.2.1.toNat,⟨(0,0,aF (List.replicate (n+1) 0)),by (try dsimp only);and_intros<;>trivial,by (try dsimp only);omega,by (try dsimp only);omega,by (try dsimp only);omega,by (try dsimp only);omega,_,rfl,by simp,bW.rep _,by simp⟩,?_⟩
  rintro ⟨cy,i,vs⟩ V2 l2 ⟨hc0,hc1,hi0,hi1,es,rfl,hes,hde,hv⟩
  dsimp only at hc0 hc1 hi0 hi1 hv ⊢
  obtain ⟨i,rfl⟩:=Int.eq_ofNat_of_zero_le hi0
  obtain ⟨cy,rfl⟩:=Int.eq_ofNat_of_zero_le hc0
  simp only [Int.toNat_natCast] at hv
  refine ⟨by trivial,fun h3=>?_,fun h3=>?_⟩
  ·have h3:i<n:=by simpa using h3
   refine (hx.le l2).rd i rfl (by omega) ?_
   have yk:=hx.eJ.get (i:=i) (by omega)
   have next:∀d:Nat,d<8589934592->val (es.take i)+4294967296^i*(d%4294967296)+4294967296^i*4294967296*(d / 4294967296)=val (xs.take (i+1))+val (ys.take (i+1)) ->
     ∃es':List Nat,(aF es).set i (.int .u32 ((d%4294967296:Nat):Int))=aF es'/\es'.length=n+1/\bW es' /\
     val (es'.take (i+1))+4294967296^(i+1)*(d / 4294967296)=val (xs.take (i+1))+val (ys.take (i+1)):=by
    intro d hd he
    refine ⟨es.set i (d%4294967296),br _ _ _,by simpa using hes,hde.set _ _ (by omega),?_⟩
    rw [aM _ _ _ (by omega),Nat.pow_succ]
    exact he
   refine ⟨fun h4=>?_,fun h4=>?_⟩
   ·have h4:i<m:=by simpa using h4
    refine (hy.le l2).rd i rfl (by omega) ?_
    have hdy:=hy.eJ.get (i:=i) (by omega)
    simp (disch:=omega) only [aL,ar,iu,lU]
    refine ⟨⟨by omega,by omega⟩,by simp;omega,by omega,(_,_,_),?_,by (try dsimp only);and_intros<;>trivial,?_⟩
    ·(try dsimp only);omega
    ·(try dsimp only)
     have hi2:((i:Int)+1).toNat=i+1:=by omega
     obtain ⟨es',e1,e2,e3,e4⟩:=next (cy+xs[i]+ys[i]) (by omega) (by rw [aA _ _ (by omega),aA _ _ (by omega)];exact tV hv rfl)
     refine ⟨by omega,by omega,by omega,by omega,es',?_,e2,e3,?_⟩
     ·rw [←e1];simp
     ·rw [hi2,←e4];congr 2
   ·have h4:m<=i:=by simpa using h4
    simp (disch:=omega) only [aL,ar,iu,lU]
    refine ⟨⟨by omega,by omega⟩,by simp;omega,by omega,(_,_,_),?_,by (try dsimp only);and_intros<;>trivial,?_⟩
    ·(try dsimp only);omega
    ·(try dsimp only)
     have hi2:((i:Int)+1).toNat=i+1:=by omega
     obtain ⟨es',e1,e2,e3,e4⟩:=next (cy+xs[i]) (by omega) (by
      rw [aA _ _ (by omega),aq (ds:=ys) (i:=i+1) (by omega)]
      have:=tV (y:=0) hv (d:=cy+xs[i]) rfl
      rwa [aq (ds:=ys) (by omega),Nat.mul_zero,Nat.add_zero] at this)
     refine ⟨by omega,by omega,by omega,by omega,es',?_,e2,e3,?_⟩
     ·rw [←e1];simp
     ·rw [hi2,←e4];congr 2
  ·have h3:i=n:=by simp at h3;omega
   subst h3
   simp (disch:=omega) only [qA]
   refine ⟨⟨by omega,by omega⟩,by simp;omega,fun V3 l3 bk hb=>?_⟩
   have e1:(aF es).set (0+((i:Int).toNat)*1) (.int .u32 (cy:Int))=aF (es.set i cy):=by rw [←br];simp
   rw [e1] at hb
   have hd2:=hde.set i cy (by omega)
   refine (aX (RD.bF hb hd2 (n:=i+1) (c:=i+1) (by simp;omega) (Nat.le_refl _)) (by simp;omega)).mono ?_
   rintro r V4 l4 ⟨k,rfl,h4⟩
   refine ⟨_,_,_,rfl,fun _ V5 l5=>⟨_,_,_,rfl,?_⟩⟩
   rw [aR hd2] at h4
   have e2:val (es.set i cy)=val xs+val ys:=by
    have:=aM es i cy (by omega)
    rw [aq (by simp;omega)] at this
    rw [this,hv,aq (by omega),aq (by omega)]
   rw [e2] at h4
   exact h4.le l5
theorem HR {E A B c x y W:Nat}(h:E+B=A+W*c){v:Int}(hc:c<=1)(hx:x<4294967296)(hy:y<4294967296)(hv:v=((x:Int)-(c+y))%18446744073709551616) :
  0<=v/\v / 9223372036854775808<=1/\0<=v / 9223372036854775808/\E+W*(v%4294967296).toNat+(B+W*y)=A+W*x+W*4294967296*(v / 9223372036854775808).toNat:=by
 rcases Nat.lt_or_ge x (c+y) with hl|hl
 ·have e1:v=18446744073709551616+(x:Int)-(c+y):=by omega
  have e2:(v / 9223372036854775808).toNat=1:=by omega
  have e3:(v%4294967296).toNat+(c+y)=x+4294967296:=by omega
  refine ⟨by omega,by omega,by omega,?_⟩
  rw [e2,Nat.mul_one]
  have:=congrArg (W*·) e3
  simp only [Nat.mul_add] at this
  omega
 ·have e1:v=(x:Int)-(c+y):=by omega
  have e2:(v / 9223372036854775808).toNat=0:=by omega
  have e3:(v%4294967296).toNat+(c+y)=x:=by omega
  refine ⟨by omega,by omega,by omega,?_⟩
  rw [e2,Nat.mul_zero,Nat.add_zero]
  have:=congrArg (W*·) e3
  simp only [Nat.mul_add] at this
  omega
theorem CS {V:View}{p q:OA}{n c m e:Nat}{xs ys:List Nat}(hx:RD V p n c xs)(hy:RD V q m e ys)(hm:xs.length<=1099511627776)(hl:ys.length<=xs.length)(hle:val ys<=val xs) :
  ab prog 250 #[.slice p n c,.slice q m e] V fun r V'=>∃p' n' c',r=.slice p' n' c'/\RN V' p' n' c' (val xs-val ys):=by
 have hlx:=hx.len
 have AF:=hy.len
 refine Ci p n c q m e V _ ⟨by omega,by omega,by omega,fun z V'=>0<=z.1/\z.1<=1/\0<=z.2.1/\z.2.1<=n/\∃es:List Nat,z.2.2=aF es/\es.length=n/\bW es /\
   val (es.take z.2.1.toNat)+val (ys.take z.2.1.toNat)=val (xs.take z.2.1.toNat)+4294967296^z.2.1.toNat*z.1.toNat,fun z=>n-z.2.1.toNat,
   ⟨(0,0,List.replicate n (.int .u32 0)),by (try dsimp only);and_intros<;>trivial,by (try dsimp only);omega,by (try dsimp only);omega,by (try dsimp only);omega,by (try dsimp only);omega,List.replicate n 0,cL n,by simp,bW.rep _,by simp⟩,?_⟩
 rintro ⟨cy,i,vs⟩ V2 l2 ⟨hc0,hc1,hi0,hi1,es,rfl,hes,hde,hv⟩
 dsimp only at hc0 hc1 hi0 hi1 hv ⊢
 obtain ⟨i,rfl⟩:=Int.eq_ofNat_of_zero_le hi0
 obtain ⟨cy,rfl⟩:=Int.eq_ofNat_of_zero_le hc0
 simp only [Int.toNat_natCast] at hv
 refine ⟨by trivial,fun h3=>?_,fun h3=>?_⟩
 ·have h3:i<n:=by simpa using h3
  refine (hx.le l2).rd i rfl (by omega) ?_
  have yk:=hx.eJ.get (i:=i) (by omega)
  refine ⟨fun z V'=>∃y:Nat,z=cy+y/\y<4294967296/\val (ys.take (i+1))=val (ys.take i)+4294967296^i*y,⟨fun h4=>?_,fun h4=>?_⟩,?_⟩
  ·have h4:i<m:=by simpa using h4
   refine (hy.le l2).rd i rfl (by omega) ?_
   have hdy:=hy.eJ.get (i:=i) (by omega)
   simp (disch:=omega) only [aL]
   exact ⟨_,by (try dsimp only);and_intros<;>trivial,ys[i],rfl,hdy,aA _ _ (by omega)⟩
  ·have h4:m<=i:=by simpa using h4
   exact ⟨_,by (try dsimp only);and_intros<;>trivial,0,by simp,by omega,by rw [aq (by omega),aq (by omega)];simp⟩
  ·rintro t V3 l3 ⟨y,rfl,hdy,hy'⟩
   refine ⟨by trivial,⟨by omega,by simpa using h3⟩,by simp;omega,by omega,?_⟩
   simp (disch:=omega) only [aL,ar,rI,iu,HM]
   obtain ⟨v,pD⟩:∃v:Int,v=((xs[i]:Int)-((cy:Int)+(y:Int)))%18446744073709551616:=⟨_,rfl⟩
   obtain ⟨g1,g2,g3,g4⟩:=HR hv (by omega) yk hdy pD
   rw [←pD]
   refine ⟨(_,_,_),?_,by (try dsimp only);and_intros<;>trivial,?_⟩
   ·(try dsimp only);omega
   ·(try dsimp only)
    have hi2:((i:Int)+1).toNat=i+1:=by omega
    refine ⟨g3,g2,by omega,by omega,es.set i (v%4294967296).toNat,?_,by simpa using hes,hde.set _ _ (by omega),?_⟩
    ·rw [←br]
     congr 2
     ·simp
     ·omega
    ·rw [hi2,aM _ _ _ (by omega),hy',g4,aA _ _ (by omega),Nat.pow_succ]
 ·have h3:i=n:=by simp at h3;omega
  subst h3
  intro V3 l3 bk hb
  refine (aX (RD.bF hb hde (n:=i) (c:=i) hes.symm (Nat.le_refl _)) (by omega)).mono ?_
  rintro r V4 l4 ⟨k,rfl,h4⟩
  refine ⟨_,_,_,rfl,fun _ V5 l5=>⟨_,_,_,rfl,?_⟩⟩
  rw [aR hde] at h4
  rw [aq (by omega),aq (by omega),aq (by omega)] at hv
  have e1:=fC hde
  rw [hes] at e1
  have e2:cy=0:=by
   rcases Nat.eq_zero_or_pos cy with h|h
   ·exact h
   ·have:4294967296^i*1<=4294967296^i*cy:=Nat.mul_le_mul_left _ h
    omega
  subst e2
  rw [show val es=val xs-val ys from by omega] at h4
  exact h4.le l5
theorem fo {a b:Nat}:ky a b<0↔a<b:=by
 unfold ky
 split
 ·simp;omega
 ·split<;>simp<;>omega
theorem kz {a b:Nat}:ky a b=0↔a=b:=by
 unfold ky
 split
 ·simp;omega
 ·split
  ·simp;omega
  ·simp;omega
theorem xW {V:View}{p q:OA}{n c m e:Nat}{xa xb:List Nat}(ha:RD V p n c xa)(hb:RD V q m e xb)(hm:xa.length<=1099511627776)(hn:xb.length<=1099511627776) :
  ab prog 239 #[.slice p n c,.slice q m e] V fun r V'=>∃p' n' c',r=.tuple #[.slice p' n' c',.bool (decide (val xb<=val xa))]/\RN V' p' n' c' (val xa-val xb):=by
 refine DQ p n c q m e V _ fun V1 l1=>(xT (ha.le l1) (hb.le l1) hm hn).mono ?_
 rintro r V2 l2 rfl
 refine ⟨_,rfl,fun h0 V3 l3=>?_,fun h0 V3 l3=>?_⟩
 ·have h0:val xa<val xb:=by simpa [fo] using h0
  rw [Nat.sub_eq_zero_of_le (by omega),decide_eq_false (by omega)]
  exact ⟨_,_,_,rfl,RD.nil⟩
 ·have h0:val xb<=val xa:=by simpa [←Int.not_lt,fo] using h0
  rw [decide_eq_true h0]
  refine (aX ((ha.le l1).le (l2.trans l3)) (by omega)).mono ?_
  rintro r V4 l4 ⟨n1,rfl,h1⟩
  refine ⟨_,_,_,rfl,fun V5 l5=>(aX ((hb.le l1).le (l2.trans (l3.trans (l4.trans l5)))) (by omega)).mono ?_⟩
  rintro r V6 l6 ⟨n2,rfl,h2⟩
  rw [aR ha.eJ] at h1
  rw [aR hb.eJ] at h2
  have:=bz ha.eJ
  refine ⟨_,_,_,rfl,fun V7 l7=>(CS (h1.le (l5.trans (l6.trans l7))) (h2.le l7) (by omega) (aI h0) (by rw [ag,ag];exact h0)).mono ?_⟩
  rintro r V8 l8 ⟨p',n',c',rfl,h3⟩
  rw [ag,ag] at h3
  exact ⟨_,_,_,rfl,fun V9 l9=>⟨_,_,_,rfl,h3.le l9⟩⟩
end Go.Proofs.Tryz
