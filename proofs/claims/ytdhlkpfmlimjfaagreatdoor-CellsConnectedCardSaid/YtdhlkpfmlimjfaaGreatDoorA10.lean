import Derived.Test.YtdhlkpfmlimjfaaGreatDoorA6
import Derived.Test.YtdhlkpfmlimjfaaGreatDoorCards
import Derived.Test.YtdhlkpfmlimjfaaGreatDoorTie
import Derived.WalkKit
import Derived.ProofKit
import Derived.OpenShut
import Derived.Deep.DeepHandedRow
import Derived.LaidLaws
import Derived.Lay
import Derived.Carry
import Derived.LaidEql
import Derived.Stop.Asserts
import Derived.RowKitTokens
import Derived.IntWalk
import Derived.Test.YtdhlkpfmlimjfaaGreatDoorA7
set_option linter.unusedVariables false
open Go.IntKind (i64 u64 u32)
namespace Go.Proofs.YtdhlkpfmlimjfaaGreatDoor
open Go.ChangeShapes Go.WideShapes Go.ChangeAt Go.RowKit Go.Eng
theorem own:ownKnob Tryz.prog.godebug=none:=by kernel_rfl
theorem star : "*" ++ "errors.errorString" = "*errors.errorString" := by decide
theorem Nx (u : TypeId)(h : Tryz.prog.typeName? 3 u = some "*errors.errorString") : u = 335 :=
 typeName_ptr_named (nm := "errors.errorString") (by rw [star]; kernel_rfl) (by kernel_rfl) (by decide) u (by rw [star]; exact h)
theorem Hy:Tryz.prog.cellsOf 360=1:=by kernel_rfl
theorem Hz:Tryz.prog.cellsOf 9=1:=by kernel_rfl
theorem Nw (g:Nat):MemPlace.cell g 0∈MemPlace.row ⟨g,0,none⟩ 1:=by simp [MemPlace.row]
theorem GP {P:Program}{W:World}{name:String}{g:Nat}{v:Value}(hg:P.globalNamed name=some g)(h:W.var? P name=some #[v]):W.cell? ⟨g,0,none⟩=some v:=by simpa using World.var?_cell hg h 0
set_option maxRecDepth 100000 in
theorem mT {W:World}{l:List (String×DataW Unit)}{name:String}{text:List UInt8}{g:Nat}(hg:Tryz.prog.globalNamed name=some g)(hty:(Tryz.prog.globals[g]?).map (·.type)=some 29)
  (hm : (name, .iface "*errors.errorString" (.ptr (.agg [.lit (.string text)]))) ∈ l)(h : laidMet Tryz.prog l W) :
  ∃a,W.cell? ⟨g,0,none⟩=some (.iface 335 (.pointer (some a))):=by
 obtain ⟨ps,hv,-,hrows⟩:=h
 induction l generalizing ps with
 | nil=>cases hm
 | cons x r ih=>
  obtain ⟨n,d⟩:=x
  obtain ⟨g',t,cs,fuel,p,q,hg',pW,hvar,hd,hr,rfl⟩:=hv
  rcases List.mem_cons.1 hm with e|hm
  ·cases e
   obtain rfl:=Option.some.inj (hg.symm.trans hg')
   obtain rfl:=Option.some.inj (hty.symm.trans pW)
   obtain ⟨l0⟩:=cs
   have ok0:∀u v,l0=[.iface u v]->Value.okWide Tryz.prog W .any 0 u v:=fun u v e=>by
    subst e
    exact (hrows g 0 (List.mem_append_left _ (List.mem_append_left _ (Nw g)))).2 u v (GP hg hvar)
   obtain ⟨a,s,rfl,-⟩:=errorString_of_trod Tryz.underlying29 Nx Tryz.underlying335 Tryz.underlying360 rfl rfl Tryz.underlying9 Hy Hz hd ok0
   exact ⟨a,GP hg hvar⟩
  ·exact ih hm q hr fun b off hb=>hrows b off (List.mem_append_right _ hb)
def View.all (W:World):View:=⟨W,fun _=>False,fun _=>False,fun _ h=>h.elim,fun _ h=>h⟩
theorem yr {w w':World}(h:dE (fun _=>False) w w')(may:MemPlace->Prop):w.keptBut w' may:=by
 refine ⟨h.os,h.out,fun i hi=>?_⟩
 rw [h.a_ i hi (fun h=>h)]
 cases w.heap[i]? with
 | none=>rfl
 | some o=>cases o<;>simp
theorem tq {f:FuncId}{args:Array Value}{W:World}{R:Value->Prop}(h:Acts Tryz.prog f args (View.all W) fun r _=>R r):Calls Tryz.prog f args W fun e w'=>∃r,e=.returned r/\R r/\dE (fun _=>False) W w':=
 h.2.mono fun e w' ⟨r,he,hx,hr⟩=>⟨r,he,hr,hx⟩
theorem laidOut:laidOutB Tryz.prog=true:=by kernel_rfl
theorem vB {w w':World}(h:dE (fun _=>False) w w'):Below w.heap.size w w':=⟨h.os,h.tape,h.out,h.size,fun k hk=>h.a_ k hk (fun h=>h)⟩
theorem Ce {P:Program}(hlo:laidOutB P=true){H:Type}{enc:TypeId×Value->H}{W W':World}(hb:Below W.heap.size W W')(ts:List TypeId):∀{vs:List Value} {ds:List (DataW H)} {ps:List MemPlace},
  (ts.all fun t=>P.readableRec t&&decide (t<P.types.size))=true->DataW.TrodAll enc P W 0 (fun _=>true) true ts vs ds ps->(∀x∈ps,x.block<W.heap.size) ->
   DataW.TrodAll enc P W' 0 (fun b=>decide (b<W.heap.size)) true ts vs ds ps:=by
 induction ts with
 | nil=>
  intro vs ds ps _ h _
  obtain ⟨rfl,rfl,rfl⟩:=trodAll_nil h
  exact trodAll_mk0
 | cons t ts ih=>
  intro vs ds ps ht h hlt
  obtain ⟨v,vs',d,ds',p,q,rfl,rfl,rfl,h1,h2⟩:=trodAll_cons h
  simp only [List.all_cons,Bool.and_eq_true,decide_eq_true_eq] at ht
  exact trodAll_cons_mk (Below.trod hlo ht.1.1 ht.1.2 h1 hb fun x hx=>hlt x (List.mem_append_left _ hx)) (ih ht.2 h2 fun x hx=>hlt x (List.mem_append_right _ hx))
set_option maxRecDepth 100000 in
theorem F4 {H:Type}{enc:TypeId×Value->H}{OM:FuncId}{f:Func}{s:ChangeSpec}{W:World}{args:Array Value}{ds gs:List (DataW H)}{before:List MemPlace}{fresh handsOn:Bool}
  (hW:DataW.Whole enc Tryz.prog f.params.toList s.vars false W args.toList ds gs before)(hvars:s.vars=[])(hts:(f.params.toList.all fun t=>Tryz.prog.readableRec t&&decide (t<Tryz.prog.types.size))=true)
  (hres:f.resultTypes=#[4])(hs:s.fn H (ds++gs)={ results:=[.lit (.bool true)],args:=ds })
  (h:Acts Tryz.prog OM args (View.all W) fun r _=>r=.bool true):Calls Tryz.prog OM args W fun e W'=>∃v,e=.returned v/\s.post enc Tryz.prog f false fresh handsOn false W args v W':=by
 refine (tq h).mono fun e W' ⟨r,he,hr,hx⟩=>?_
 subst he hr
 have hW':=hW
 obtain ⟨p,q,hA,hV,rfl,-,-⟩:=hW
 rw [hvars] at hV
 obtain ⟨rfl,rfl⟩:=trodVars_none hV
 have hlt:∀x∈p++[],x.block<W.heap.size:=fun x hx=>hW'.lt x hx
 refine ⟨_,rfl,ds,_,p++[],[],p++[],[],hW',?_,?_,?_,yr hx _,fun h=>nomatch h⟩
 ·rw [hs,hres]
  exact trodAll_cons_mk (shut_bool Tryz.underlying4 _) trodAll_mk0
 ·rw [hs,List.append_nil]
  exact Ce laidOut (vB hx) _ hts hA fun x hx=>hlt x (by rw [List.append_nil];exact hx)
 ·rw [hs,hvars]
  rfl
set_option maxRecDepth 100000 in
theorem yU {H:Type}{enc:TypeId×Value->H}{W:World}{p:OA}{n c:Nat}{d:DataW H}{ps:List MemPlace}
  (h:DataW.Trod enc Tryz.prog W 0 (fun _=>true) true 22 (.slice p n c) d ps):n<=c/\∀i,i<n->∃(a:Addr)(x:Int),addrAdd p (i*1)=some a/\(View.all W).at a (.int .i64 x):=by
 obtain ⟨fuel,hf⟩:=h
 rcases open_ints Tryz.underlying22 Tryz.underlying3 (show Tryz.prog.cellsOf 3=1 by kernel_rfl) hf with ⟨hcs,-⟩|⟨a,len',cap',zs,hcs,_,hl,-,hz,-,hcell,-⟩
 ·simp [Value.cells] at hcs
  obtain ⟨rfl,rfl,rfl⟩:=hcs
  exact ⟨Nat.le_refl _,fun i hi=>absurd hi (by omega)⟩
 ·simp [Value.cells] at hcs
  obtain ⟨rfl,rfl,rfl⟩:=hcs
  simp only [if_true] at hz
  exact ⟨hl,fun i hi=>⟨a.add i,_,by rw [Nat.mul_one];rfl,fun h=>h,hcell i (by omega)⟩⟩
end Go.Proofs.YtdhlkpfmlimjfaaGreatDoor
namespace Go.Big
def val:List Nat->Nat
 | []=>0
 | d::r=>d+4294967296*val r
def bC (ds:List Nat):Prop:=∀d∈ds,d<4294967296
def bK:List Nat->List Nat
 | []=>[]
 | d::r=>if bK r=[]/\d=0 then [] else d::bK r
def pg (ds:List Nat):Prop:=bK ds=ds
def qJ:Nat->Nat->List Nat
 | 0,_=>[]
 | f+1,n=>if n=0 then [] else n%4294967296::qJ f (n / 4294967296)
def af (n:Nat):List Nat:=qJ n n
@[simp] theorem dz:val []=0:=rfl
@[simp] theorem aS (d:Nat)(r:List Nat):val (d::r)=d+4294967296*val r:=rfl
theorem bC.nil:bC []:=fun _ h=>nomatch h
theorem bC.cons {d:Nat}{r:List Nat}:bC (d::r)↔d<4294967296/\bC r:=by simp [bC]
theorem bC.append {a b:List Nat}:bC (a++b)↔bC a/\bC b:=by simp [bC,or_imp,forall_and]
theorem bC.take {a:List Nat}(h:bC a)(k:Nat):bC (a.take k):=fun d hd=>h d (List.mem_of_mem_take hd)
theorem bC.drop {a:List Nat}(h:bC a)(k:Nat):bC (a.drop k):=fun d hd=>h d (List.mem_of_mem_drop hd)
theorem bC.set {a:List Nat}(h:bC a)(k x:Nat)(hx:x<4294967296):bC (a.set k x):=fun d hd=>by
 rcases List.mem_or_eq_of_mem_set hd with h'|h'
 ·exact h d h'
 ·exact h'▸hx
theorem bC.get {a:List Nat}(h:bC a){i:Nat}(hi:i<a.length):a[i]<4294967296:=h _ (List.getElem_mem hi)
theorem bC.rep (n:Nat):bC (List.replicate n 0):=fun d hd=>by rw [List.eq_of_mem_replicate hd];omega
theorem cH (a b:List Nat):val (a++b)=val a+4294967296^a.length*val b:=by
 induction a with
 | nil=>simp
 | cons d r ih=>simp only [List.cons_append,aS,ih,List.length_cons,Nat.pow_succ];grind
theorem eR {ds:List Nat}(h:bC ds):val ds<4294967296^ds.length:=by
 induction ds with
 | nil=>simp
 | cons d r ih=>
  have h':=bC.cons.1 h
  have:=ih h'.2
  have h1:=h'.1
  simp only [aS,List.length_cons,Nat.pow_succ]
  have h2:val r+1<=4294967296^r.length:=this
  have h3:=Nat.mul_le_mul_left 4294967296 h2
  omega
theorem qg (n:Nat):val (List.replicate n 0)=0:=by
 induction n with
 | zero=>rfl
 | succ n ih=>simp [List.replicate_succ,ih]
theorem aq (ds:List Nat)(i:Nat)(h:i<ds.length):val (ds.take (i+1))=val (ds.take i)+4294967296^i*ds[i]:=by
 rw [List.take_succ_eq_append_getElem h,cH]
 simp [List.length_take,Nat.min_eq_left (Nat.le_of_lt h)]
theorem ai {ds:List Nat}{i:Nat}(h:ds.length<=i):val (ds.take i)=val ds:=by rw [List.take_of_length_le h]
theorem tE (ds:List Nat)(i x:Nat)(h:i<ds.length):(ds.set i x).take (i+1)=ds.take i++[x]:=by
 rw [List.take_succ_eq_append_getElem (by simpa using h),List.take_set,List.set_eq_of_length_le (by simp;omega)]
 simp
theorem aE (ds:List Nat)(i x:Nat)(h:i<ds.length):val ((ds.set i x).take (i+1))=val (ds.take i)+4294967296^i*x:=by
 rw [tE ds i x h,cH]
 simp [List.length_take,Nat.min_eq_left (Nat.le_of_lt h)]
theorem fK (r:List Nat):bK (r++[0])=bK r:=by
 induction r with
 | nil=>simp [bK]
 | cons d r ih=>simp only [List.cons_append,bK,ih]
theorem lS (r:List Nat)(d:Nat)(h:d≠0):bK (r++[d])=r++[d]:=by
 induction r with
 | nil=>simp [bK,h]
 | cons x r ih=>simp [List.cons_append,bK,ih]
theorem C9 (ds:List Nat):val (bK ds)=val ds:=by
 induction ds with
 | nil=>rfl
 | cons d r ih=>
  simp only [bK]
  split
  ·rename_i h
   rw [aS,←ih,h.1,h.2];rfl
  ·simp [ih]
theorem iT (ds:List Nat):(bK ds).length<=ds.length:=by
 induction ds with
 | nil=>simp [bK]
 | cons d r ih=>simp only [bK];split<;>simp<;>omega
theorem C7 (ds:List Nat):bK ds=ds.take (bK ds).length:=by
 induction ds with
 | nil=>rfl
 | cons d r ih=>
  simp only [bK]
  split
  ·rfl
  ·simp only [List.length_cons,List.take_succ_cons];rw [←ih]
theorem bC.trim {ds:List Nat}(h:bC ds):bC (bK ds):=by rw [C7];exact h.take _
theorem zh (ds:List Nat):pg (bK ds):=by
 unfold pg
 induction ds with
 | nil=>rfl
 | cons d r ih=>
  rw [bK]
  split
  ·rfl
  ·rename_i h;rw [bK,ih,if_neg h]
theorem pg.tail {d:Nat}{r:List Nat}(h:pg (d::r)):pg r:=by
 unfold pg at h ⊢
 simp only [bK] at h
 split at h
 ·cases h
 ·injection h
theorem pg.zero {ds:List Nat}(h:pg ds)(hv:val ds=0):ds=[]:=by
 induction ds with
 | nil=>rfl
 | cons d r ih=>
  have hr:=ih h.tail (by simp at hv;omega)
  subst hr
  simp at hv;subst hv
  simp [pg,bK] at h
theorem mr:∀(f n:Nat),n<=f->val (qJ f n)=n/\bC (qJ f n)/\pg (qJ f n)
 | 0,n,h=>⟨by simp [qJ];omega,bC.nil,rfl⟩
 | f+1,n,h=>by
  simp only [qJ]
  split
  ·subst_vars;exact ⟨rfl,bC.nil,rfl⟩
  ·obtain ⟨h1,h2,h3⟩:=mr f (n / 4294967296) (by omega)
   refine ⟨by rw [aS,h1];omega,bC.cons.2 ⟨by omega,h2⟩,?_⟩
   unfold pg at h3 ⊢
   rw [bK,h3,if_neg]
   rintro ⟨e1,e2⟩
   rw [e1] at h1
   simp at h1
   omega
theorem ab (n:Nat):val (af n)=n:=(mr n n (Nat.le_refl _)).1
theorem ax (n:Nat):bC (af n):=(mr n n (Nat.le_refl _)).2.1
theorem gI (n:Nat):pg (af n):=(mr n n (Nat.le_refl _)).2.2
theorem pg.ext:∀{a b:List Nat},bC a->bC b->pg a->pg b->val a=val b->a=b
 | [],b,_,_,_,hb,h=>(hb.zero (by rw [←h];rfl)).symm
 | d::r,[],_,_,ha,_,h=>by have:=ha.zero h;cases this
 | d::r,e::s,ha,hb,na,nb,h=>by
  have h1:=(bC.cons.1 ha).1
  have h2:=(bC.cons.1 hb).1
  simp only [aS] at h
  have:val r=val s:=by omega
  have hrs:=pg.ext (bC.cons.1 ha).2 (bC.cons.1 hb).2 na.tail nb.tail this
  have:d=e:=by omega
  subst this;rw [hrs]
theorem qL {ds:List Nat}(h:bC ds)(hn:pg ds):af (val ds)=ds:=pg.ext (ax _) h (gI _) hn (ab _)
theorem aK {ds:List Nat}(h:bC ds):bK ds=af (val ds):=by
 rw [←C9,qL h.trim (zh _)]
theorem qK {a b:Nat}(h:af a=af b):a=b:=by rw [←ab a,h,ab]
@[simp] theorem uD:af 0=[]:=rfl
theorem bf {n:Nat}:af n=[]↔n=0:=⟨fun h=>qK (by rw [h];rfl),fun h=>h▸rfl⟩
theorem pg.last {ds:List Nat}(h:pg ds)(hl:0<ds.length):ds[ds.length-1]≠0:=by
 intro e
 have hs:ds=ds.take (ds.length-1)++[ds[ds.length-1]]:=by
  rw [←List.take_succ_eq_append_getElem (by omega),Nat.sub_add_cancel hl,List.take_length]
 rw [e] at hs
 have h2:bK ds=ds:=h
 rw [hs,fK] at h2
 have:=iT (ds.take (ds.length-1))
 rw [h2] at this
 simp at this
 omega
theorem yD {ds:List Nat}(h:∀hl:0<ds.length,ds[ds.length-1]≠0):pg ds:=by
 rcases Nat.eq_zero_or_pos ds.length with e|e
 ·rw [List.length_eq_zero_iff.1 e];rfl
 ·have hs:ds=ds.take (ds.length-1)++[ds[ds.length-1]]:=by
   rw [←List.take_succ_eq_append_getElem (by omega),Nat.sub_add_cancel e,List.take_length]
  have:=lS (ds.take (ds.length-1)) _ (h e)
  rw [←hs] at this
  exact this
theorem Fc {ds:List Nat}(h:pg ds)(hl:0<ds.length):4294967296^(ds.length-1)<=val ds:=by
 have hs:ds=ds.take (ds.length-1)++[ds[ds.length-1]]:=by
  rw [←List.take_succ_eq_append_getElem (by omega),Nat.sub_add_cancel hl,List.take_length]
 have h0:=h.last hl
 rw [hs,cH]
 simp only [aS,dz,List.length_take]
 rw [Nat.min_eq_left (by omega)]
 simp only [List.length_append,List.length_take,List.length_singleton]
 rw [Nat.min_eq_left (by omega),Nat.sub_add_cancel hl]
 have:4294967296^(ds.length-1)*1<=4294967296^(ds.length-1)*(ds[ds.length-1]+4294967296*0):=Nat.mul_le_mul_left _ (by omega)
 omega
theorem az {n k:Nat}:(af n).length<=k↔n<4294967296^k:=by
 constructor
 ·intro h
  have:=eR (ax n)
  rw [ab] at this
  exact Nat.lt_of_lt_of_le this (Nat.pow_le_pow_right (by omega) h)
 ·intro h
  rcases Nat.lt_or_ge k (af n).length with h'|h'
  ·have:=Fc (gI n) (by omega)
   rw [ab] at this
   have h2:4294967296^k<=4294967296^((af n).length-1):=Nat.pow_le_pow_right (by omega) (by omega)
   omega
  ·exact h'
theorem oJ {n k:Nat}:k<(af n).length↔4294967296^k<=n:=by
 have:=@az n k
 omega
theorem fl (ds:List Nat)(i:Nat)(h:i<ds.length):val ds=val (ds.take i)+4294967296^i*(ds[i]+4294967296*val (ds.drop (i+1))):=by
 have h2:val ds=val (ds.take i++ds.drop i):=by rw [List.take_append_drop]
 rw [h2,cH,List.drop_eq_getElem_cons h]
 simp only [List.length_take,Nat.min_eq_left (Nat.le_of_lt h),aS]
theorem h_ {a b:List Nat}{i:Nat}(ha:bC a)(hi:i<a.length)(hj:i<b.length)(hd:a.drop (i+1)=b.drop (i+1))(hl:a[i]<b[i]):val a<val b:=by
 rw [fl a i hi,fl b i hj,hd]
 have h1:=eR (ha.take i)
 simp only [List.length_take,Nat.min_eq_left (Nat.le_of_lt hi)] at h1
 have h2:4294967296^i*(a[i]+4294967296*val (b.drop (i+1))+1)<=4294967296^i*(b[i]+4294967296*val (b.drop (i+1))):=Nat.mul_le_mul_left _ (by omega)
 rw [Nat.mul_add,Nat.mul_one] at h2
 omega
theorem iN {a b:Nat}(h:(af a).length<(af b).length):a<b:=by
 have h1:=eR (ax a)
 have h2:=Fc (gI b) (by omega)
 rw [ab] at h1 h2
 have h3:4294967296^(af a).length<=4294967296^((af b).length-1):=Nat.pow_le_pow_right (by omega) (by omega)
 omega
def iI (a b:Nat):Int:=if a<b then -1 else if b<a then 1 else 0
theorem aB {a b:Nat}(h:a<=b):(af a).length<=(af b).length:=by
 rcases Nat.lt_or_ge (af b).length (af a).length with h'|h'
 ·have:=iN h';omega
 ·exact h'
theorem aZ {ds:List Nat}(h:bC ds):(af (val ds)).length<=ds.length:=by rw [←aK h];exact iT ds
theorem FG {n:Nat}(h:n<4294967296)(h0:n≠0):af n=[n]:=by
 have:pg [n]:=by simp [pg,bK,h0]
 have:=qL (by simp [bC];exact h) this
 simpa using this
end Go.Big
namespace Go.Proofs.Tryz
open Go.Big
section
variable {α:Type}
structure Ord (c:α->α->Int):Prop where
 IF:∀a b,c a b<0->¬c b a<0
 tr:∀a b d,¬c a b<0->¬c b d<0->¬c a d<0
variable {c:α->α->Int}
theorem Ord.le (h:Ord c){a b:α}(l:c a b<0):¬c b a<0:=h.IF a b l
theorem Ord.refl (h:Ord c)(a:α):¬c a a<0:=fun l=>h.IF a a l l
def pB (d:α)(l:List α)(i j:Nat):List α:=(l.set i (l.getD j d)).set j (l.getD i d)
variable {d:α}
theorem wH {l:List α}{i j:Nat}:(pB d l i j).length=l.length:=by simp [pB]
theorem my {l:List α}{i k:Nat}{x:α}(hi:i<l.length):(l.set i x).getD k d=if k=i then x else l.getD k d:=by
 simp only [List.getD_eq_getElem?_getD,List.getElem?_set]
 by_cases h:k=i
 ·subst h;simp [hi]
 ·have:¬i=k:=fun e=>h e.symm
  simp [h,this]
theorem lN {l:List α}{i j k:Nat}(hi:i<l.length)(hj:j<l.length):(pB d l i j).getD k d=if k=j then l.getD i d else if k=i then l.getD j d else l.getD k d:=by
 unfold pB
 rw [my (by simpa using hj),my hi]
theorem Fa {l:List α}{i j:Nat}(hi:i<l.length)(hj:j<l.length):(pB d l i j).Perm l:=by
 have h:=Array.swap_perm (xs:=l.toArray) (i:=i) (j:=j) (by simpa using hi) (by simpa using hj)
 have e:(l.toArray.swap i j (by simpa using hi) (by simpa using hj)).toList=pB d l i j:=by
  simp [Array.swap,pB,List.getD_eq_getElem?_getD,hi,hj]
 have:=h.toList
 rw [e] at this
 simpa using this
structure oC (d:α) (l m:List α) (a b:Nat):Prop where
 len:m.length=l.length
 out:∀k,¬(a<=k/\k<b)->m.getD k d=l.getD k d
 mem:∀k,a<=k->k<b->∃k',a<=k'/\k'<b/\m.getD k d=l.getD k' d
 perm:m.Perm l
theorem oC.refl (l:List α)(a b:Nat):oC d l l a b:=⟨rfl,fun _ _=>rfl,fun k h h'=>⟨k,h,h',rfl⟩,.refl _⟩
theorem oC.trans {l m n:List α}{a b:Nat}(h:oC d l m a b)(g:oC d m n a b):oC d l n a b:=
 ⟨g.len.trans h.len,fun k hk=>(g.out k hk).trans (h.out k hk),fun k h1 h2=>by
  obtain ⟨k',h3,h4,e⟩:=g.mem k h1 h2
  obtain ⟨k'',h5,h6,e'⟩:=h.mem k' h3 h4
  exact ⟨k'',h5,h6,e.trans e'⟩,g.perm.trans h.perm⟩
theorem oC.wide {l m:List α}{a b a' b':Nat}(h:oC d l m a b)(ha:a'<=a)(hb:b<=b'):oC d l m a' b':=
 ⟨h.len,fun k hk=>h.out k (by omega),fun k h1 h2=>by
  by_cases hk:a<=k/\k<b
  ·obtain ⟨k',h3,h4,e⟩:=h.mem k hk.1 hk.2
   exact ⟨k',by omega,by omega,e⟩
  ·exact ⟨k,h1,h2,h.out k hk⟩,h.perm⟩
theorem oC.pB {l:List α}{a b i j:Nat}(hi:a<=i)(hi':i<b)(hj:a<=j)(hj':j<b)(hb:b<=l.length):oC d l (pB d l i j) a b:=by
 refine ⟨wH,fun k hk=>?_,fun k h1 h2=>?_,Fa (by omega) (by omega)⟩
 ·rw [lN (by omega) (by omega),if_neg (by omega),if_neg (by omega)]
 ·rw [lN (by omega) (by omega)]
  split
  ·exact ⟨i,hi,hi',rfl⟩
  ·split
   ·exact ⟨j,hj,hj',rfl⟩
   ·exact ⟨k,h1,h2,rfl⟩
def sX (c:α->α->Int)(d:α)(l:List α)(a b:Nat):Prop:=∀p q,a<=p->p<q->q<b->¬c (l.getD q d) (l.getD p d)<0
theorem sX.short {l:List α}{a b:Nat}(h:b<=a+1):sX c d l a b:=fun p q h1 h2 h3=>by omega
theorem sX.step (ho:Ord c){l:List α}{a b:Nat}(h:sX c d l a b)(h0:a<b)(hb:¬c (l.getD b d) (l.getD (b-1) d)<0):sX c d l a (b+1):=by
 intro p q h1 h2 h3
 by_cases e:q=b
 ·subst e
  by_cases e':p=q-1
  ·subst e';exact hb
  ·exact ho.tr _ _ _ hb (h p (q-1) h1 (by omega) (by omega))
 ·exact h p q h1 h2 (by omega)
def Hj (c:α->α->Int)(d:α)(l:List α)(a i j:Nat):Prop:=∀p q,a<=p->p<q->q<=i->q≠j->¬c (l.getD q d) (l.getD p d)<0
theorem Hj.start {l:List α}{a i:Nat}(h:sX c d l a i):Hj c d l a i i:=fun p q h1 h2 h3 h4=>h p q h1 h2 (by omega)
theorem Hj.done (ho:Ord c){l:List α}{a i j:Nat}(h:Hj c d l a i j)(hji:j<=i)(hs:j<=a\/¬c (l.getD j d) (l.getD (j-1) d)<0):sX c d l a (i+1):=by
 intro p q h1 h2 h3
 by_cases e:q=j
 ·subst e
  rcases hs with hs|hs
  ·omega
  ·by_cases e':p=q-1
   ·subst e';exact hs
   ·exact ho.tr _ _ _ hs (h p (q-1) h1 (by omega) (by omega) (by omega))
 ·exact h p q h1 h2 (by omega) e
theorem Hj.move (ho:Ord c){l:List α}{a i j:Nat}(h:Hj c d l a i j)(hj:a<j)(hji:j<=i)(hi:i<l.length)(hl:c (l.getD j d) (l.getD (j-1) d)<0):Hj c d (pB d l j (j-1)) a i (j-1):=by
 intro p q h1 h2 h3 h4
 have ha:=fun k=>lN (d:=d) (l:=l) (i:=j) (j:=j-1) (k:=k) (by omega) (by omega)
 rw [ha,ha]
 by_cases eq:q=j
 ·subst eq
  rw [if_neg (by omega),if_pos rfl]
  by_cases ep:p=q-1
  ·rw [if_pos ep];exact ho.IF _ _ hl
  ·rw [if_neg ep,if_neg (by omega)];exact h p (q-1) h1 (by omega) (by omega) (by omega)
 ·rw [if_neg h4,if_neg eq]
  by_cases ep:p=j-1
  ·rw [if_pos ep];exact h j q (by omega) (by omega) h3 eq
  ·rw [if_neg ep]
   by_cases OD:p=j
   ·rw [if_pos OD];exact h (j-1) q (by omega) (by omega) h3 eq
   ·rw [if_neg OD];exact h p q h1 h2 h3 eq
def Hp (c:α->α->Int)(d:α)(l:List α)(f lo hi:Nat)(r:Option Nat):Prop:=
 (∀i k,lo<=i->(k=2*i+1\/k=2*i+2)->k<hi->r≠some i->¬c (l.getD (f+i) d) (l.getD (f+k) d)<0) /\
 (∀i j k,r=some j->lo<=i->(j=2*i+1\/j=2*i+2)->(k=2*j+1\/k=2*j+2)->k<hi->¬c (l.getD (f+i) d) (l.getD (f+k) d)<0)
theorem Hp.top (ho:Ord c){l:List α}{f hi:Nat}(h:Hp c d l f 0 hi none):∀k,k<hi->¬c (l.getD f d) (l.getD (f+k) d)<0:=by
 intro k
 induction k using Nat.strongRecOn with
 | ind k ih=>
  intro hk
  by_cases h0:k=0
  ·subst h0;exact ho.refl _
  ·exact ho.tr _ _ _ (ih ((k-1) / 2) (by omega) (by omega)) (h.1 ((k-1) / 2) k (by omega) (by omega) hk (by simp))
theorem Hp.leaf {l:List α}{f lo hi r:Nat}(h:Hp c d l f lo hi (some r))(hr:hi<=2*r+1):Hp c d l f lo hi none:=
 ⟨fun i k h1 h2 h3 _=>by
  by_cases e:r=i
  ·omega
  ·exact h.1 i k h1 h2 h3 (by simpa using e),fun i j k e=>by cases e⟩
theorem Hp.stop (ho:Ord c){l:List α}{f lo hi r k:Nat}(h:Hp c d l f lo hi (some r))(hk:k=2*r+1\/k=2*r+2)(hm:∀k',(k'=2*r+1\/k'=2*r+2)->k'<hi->¬c (l.getD (f+k) d) (l.getD (f+k') d)<0)
  (hs:¬c (l.getD (f+r) d) (l.getD (f+k) d)<0):Hp c d l f lo hi none:=
 ⟨fun i k' h1 h2 h3 _=>by
  by_cases e:r=i
  ·subst e;exact ho.tr _ _ _ hs (hm k' h2 h3)
  ·exact h.1 i k' h1 h2 h3 (by simpa using e),fun i j k e=>by cases e⟩
theorem Hp.down (ho:Ord c){l:List α}{f lo hi r k:Nat}(h:Hp c d l f lo hi (some r))(hlo:lo<=r)(hl:f+hi<=l.length)(hk:k=2*r+1\/k=2*r+2)(hkh:k<hi)(hm:∀k',(k'=2*r+1\/k'=2*r+2)->k'<hi->¬c (l.getD (f+k) d) (l.getD (f+k') d)<0)
  (hs:c (l.getD (f+r) d) (l.getD (f+k) d)<0):Hp c d (pB d l (f+r) (f+k)) f lo hi (some k):=by
 have ha:=fun x=>lN (d:=d) (l:=l) (i:=f+r) (j:=f+k) (k:=x) (by omega) (by omega)
 refine ⟨fun i k' h1 h2 h3 h4=>?_,fun i j k' e h1 h2 h3 h4=>?_⟩
 ·have h4:¬i=k:=fun e=>h4 (by rw [e])
  rw [ha,ha,if_neg (show ¬f+i=f+k by omega)]
  by_cases er:i=r
  ·subst er
   rw [if_pos rfl]
   by_cases ek:k'=k
   ·rw [if_pos (by omega)];exact ho.IF _ _ hs
   ·rw [if_neg (by omega),if_neg (by omega)];exact hm k' h2 h3
  ·rw [if_neg (by omega)]
   by_cases ek:k'=r
   ·subst ek
    rw [if_neg (by omega),if_pos rfl]
    exact h.2 i k' k rfl h1 h2 hk hkh
   ·rw [if_neg (by omega),if_neg (by omega)]
    exact h.1 i k' h1 h2 h3 (by simp;omega)
 ·cases e
  rw [ha,ha]
  have:i=r:=by omega
  subst this
  rw [if_neg (by omega),if_pos rfl,if_neg (by omega),if_neg (by omega)]
  exact h.1 k k' (by omega) h3 h4 (by simp;omega)
theorem Hp.more {l:List α}{f lo hi:Nat}(h:Hp c d l f (lo+1) hi none):Hp c d l f lo hi (some lo):=
 ⟨fun i k h1 h2 h3 h4=>h.1 i k (by have:¬lo=i:=fun e=>h4 (by rw [e]);omega) h2 h3 (by simp),fun i j k e h1 h2 h3 h4=>by cases e;omega⟩
def Sep (c:α->α->Int)(d:α)(l:List α)(a m b:Nat):Prop:=∀p q,a<=p->p<m->m<=q->q<b->¬c (l.getD q d) (l.getD p d)<0
theorem oC.sep {l m:List α}{a b x y z:Nat}(h:oC d l m a b)(hs:Sep c d l x y z)(hc:(x<=a/\b<=y)\/(y<=a/\b<=z)\/b<=x\/z<=a):Sep c d m x y z:=by
 intro p q h1 h2 h3 h4
 have key:∀k,∃k',m.getD k d=l.getD k' d/\(k=k'\/a<=k/\k<b/\a<=k'/\k'<b):=fun k=>by
  by_cases hk:a<=k/\k<b
  ·obtain ⟨k',e1,e2,e⟩:=h.mem k hk.1 hk.2
   exact ⟨k',e,.inr ⟨hk.1,hk.2,e1,e2⟩⟩
  ·exact ⟨k,h.out k hk,.inl rfl⟩
 obtain ⟨p',e1,e2⟩:=key p
 obtain ⟨q',f1,f2⟩:=key q
 rw [e1,f1]
 exact hs p' q' (by omega) (by omega) (by omega) (by omega)
theorem oC.asc {l m:List α}{a b x y:Nat}(h:oC d l m a b)(hs:sX c d l x y)(hc:y<=a\/b<=x):sX c d m x y:=by
 intro p q h1 h2 h3
 rw [h.out p (by omega),h.out q (by omega)]
 exact hs p q h1 h2 h3
theorem sX.join {l:List α}{a m b:Nat}(h1:sX c d l a m)(h2:sX c d l m b)(h3:Sep c d l a m b):sX c d l a b:=by
 intro p q g1 g2 g3
 by_cases hq:q<m
 ·exact h1 p q g1 g2 hq
 ·by_cases hp:m<=p
  ·exact h2 p q hp g2 g3
  ·exact h3 p q g1 (by omega) (by omega) g3
end
end Go.Proofs.Tryz
namespace Go.Proofs.Tryz.Sec
abbrev V2:=Rat×Rat
def cr (u v:V2):Rat:=u.1*v.2-u.2*v.1
def dt (u v:V2):Rat:=u.1*v.1+u.2*v.2
def up (u:V2):Prop:=u.2>0\/u.2=0/\u.1>0
def dn (u:V2):Prop:=u.2<0\/u.2=0/\u.1<0
def nz (u:V2):Prop:=u.1≠0\/u.2≠0
def Qn (u v:V2):Prop:=(up u/\dn v)\/((up u/\up v\/dn u/\dn v)/\cr u v>0)
def RB (s r:V2):Prop:=∃c:Rat,c>0/\s.1=-(c*r.1)/\s.2=-(c*r.2)
theorem BG (u v:V2):cr v u=-cr u v:=by unfold cr;grind
theorem MN (u w r:V2):cr u r*w.1+cr r w*u.1=cr u w*r.1:=by unfold cr;grind
theorem Ec (u w r:V2):cr u r*w.2+cr r w*u.2=cr u w*r.2:=by unfold cr;grind
theorem mp {a b:Rat}(ha:a>0)(hb:b>0):a*b>0:=Rat.mul_pos ha hb
theorem mn {a b:Rat}(ha:a≥0)(hb:b≥0):a*b≥0:=Rat.mul_nonneg ha hb
theorem b1 {u w r:V2}(hu:up u)(hw:dn w)(hr:up r)(a:cr u r>0)(b:cr r w<=0)(c:cr u w≥0):False:=by
 have e:=Ec u w r
 unfold up at hu hr;unfold dn at hw
 have h1:cr u r*(-w.2)≥0:=mn (by grind) (by grind)
 have h2:(-(cr r w))*u.2≥0:=mn (by grind) (by grind)
 have h3:cr u w*r.2≥0:=mn c (by grind)
 have z1:cr u r*w.2=0:=by grind
 have w2:w.2=0:=by rcases Rat.mul_eq_zero.1 z1 with h|h<;>grind
 have w1:w.1<0:=by grind
 have bb:cr r w=-(r.2*w.1):=by unfold cr;grind
 have r2:r.2=0:=by
  by_cases h:r.2>0
  ·have:=mp h (show -w.1>0 by grind)
   grind
  ·grind
 have r1:r.1>0:=by grind
 have aa:cr u r=-(u.2*r.1):=by unfold cr;grind
 have:=mn (show u.2≥0 by grind) (show r.1≥0 by grind)
 grind
theorem b2 {u w r:V2}(hu:up u)(hw:dn w)(hr:dn r)(a:cr u r<=0)(b:cr r w>0)(c:cr u w≥0):False:=by
 have e:=Ec u w r
 unfold up at hu;unfold dn at hw hr
 have h1:(-(cr u r))*(-w.2)≥0:=mn (by grind) (by grind)
 have h2:cr r w*u.2≥0:=mn (by grind) (by grind)
 have h3:cr u w*(-r.2)≥0:=mn c (by grind)
 have z1:cr r w*u.2=0:=by grind
 have u2:u.2=0:=by rcases Rat.mul_eq_zero.1 z1 with h|h<;>grind
 have u1:u.1>0:=by grind
 have cc:cr u w=u.1*w.2:=by unfold cr;grind
 have w2:w.2=0:=by
  by_cases h:w.2<0
  ·have:=mp u1 (show -w.2>0 by grind)
   grind
  ·grind
 have w1:w.1<0:=by grind
 have bb:cr r w=-(r.2*w.1):=by unfold cr;grind
 have:=mn (show -r.2≥0 by grind) (show -w.1≥0 by grind)
 grind
theorem b3 {u w r:V2}(hu:dn u)(hw:up w)(hr:dn r)(a:cr u r>0)(b:cr r w<=0)(c:cr u w≥0):False:=by
 have e:=Ec u w r
 unfold dn at hu hr;unfold up at hw
 have h1:cr u r*w.2≥0:=mn (by grind) (by grind)
 have h2:(-(cr r w))*(-u.2)≥0:=mn (by grind) (by grind)
 have h3:cr u w*(-r.2)≥0:=mn c (by grind)
 have z1:cr u r*w.2=0:=by grind
 have w2:w.2=0:=by rcases Rat.mul_eq_zero.1 z1 with h|h<;>grind
 have w1:w.1>0:=by grind
 have bb:cr r w=-(r.2*w.1):=by unfold cr;grind
 have r2:r.2=0:=by
  by_cases h:r.2<0
  ·have:=mp w1 (show -r.2>0 by grind)
   grind
  ·grind
 have r1:r.1<0:=by grind
 have aa:cr u r=-(u.2*r.1):=by unfold cr;grind
 have:=mn (show -u.2≥0 by grind) (show -r.1≥0 by grind)
 grind
theorem b4 {u w r:V2}(hu:dn u)(hw:up w)(hr:up r)(a:cr u r<=0)(b:cr r w>0)(c:cr u w≥0):False:=by
 have e:=Ec u w r
 unfold dn at hu;unfold up at hw hr
 have h1:(-(cr u r))*w.2≥0:=mn (by grind) (by grind)
 have h2:cr r w*(-u.2)≥0:=mn (by grind) (by grind)
 have h3:cr u w*r.2≥0:=mn c (by grind)
 have z1:cr r w*u.2=0:=by grind
 have u2:u.2=0:=by rcases Rat.mul_eq_zero.1 z1 with h|h<;>grind
 have u1:u.1<0:=by grind
 have cc:cr u w=u.1*w.2:=by unfold cr;grind
 have w2:w.2=0:=by
  by_cases h:w.2>0
  ·have:=mp h (show -u.1>0 by grind)
   grind
  ·grind
 have w1:w.1>0:=by grind
 have bb:cr r w=-(r.2*w.1):=by unfold cr;grind
 have:=mn (show r.2≥0 by grind) (show w.1≥0 by grind)
 grind
structure Lb (D:List V2):Prop where
 nz:∀r∈D,nz r
 cl:∀r∈D,∃s∈D,RB s r
 asc:D.Pairwise Qn
def ss (a b:Rat):Prop:=(b>0->a>0)/\(b<0->a<0)
section
variable {D:List V2} (h:Lb D) {v:V2} (hv:∀r ∈ D,cr r v≠0)
include h hv
end
theorem sq_pos {u:V2}(h:nz u):dt u u>0:=by
 have sq:∀x:Rat,x*x≥0:=fun x=>by
  by_cases hx:x≥0
  ·exact mn hx hx
  ·have:=mn (show -x≥0 by grind) (show -x≥0 by grind);grind
 have:=sq u.1
 have:=sq u.2
 unfold dt
 by_cases hh:u.1*u.1+u.2*u.2>0
 ·exact hh
 ·unfold nz at h
  have e1:u.1*u.1=0:=by grind
  have e2:u.2*u.2=0:=by grind
  rcases Rat.mul_eq_zero.1 e1 with e|e<;>rcases Rat.mul_eq_zero.1 e2 with e'|e'<;>grind
section
variable {D:List V2} (h:Lb D)
include h
end
section
variable {D:List V2} (h:Lb D)
include h
end
end Go.Proofs.Tryz.Sec
namespace Go.Proofs.Tryz
open Go.Eng
def Sent (V:View)(g:Nat)(y:Value):Prop:=V.at ⟨g,0,none⟩ y
theorem Sent.le {V V':View}{g:Nat}{y:Value}(h:Sent V g y)(l:V.Le V'):Sent V' g y:=l.at h
def SErr (y:Value):Prop:=∃a:Addr,y=.iface 335 (.pointer (some a))
section
open Go.RowKit Go.Extern.Stop Go.Stop Go.Extern
end
end Go.Proofs.Tryz
namespace Go.Eng
open Go.Big
theorem i64w {x:Int}(h:-9223372036854775808<=x/\x<=9223372036854775807):i64.wrap x=x:=IntWalk.i64_in x h
theorem aH {x:Int}(h:0<=x/\x<=18446744073709551615):u64.wrap x=x:=IntWalk.u64_in x h
theorem m_ {x:Int}(h:0<=x/\x<=4294967295):u32.wrap x=x:=IntWalk.u32_in x h
theorem fT (x:Int):u32.wrap x=x%4294967296:=by rw [IntKind.wrap_u32]
theorem og (x:Int):u64.wrap x=x%18446744073709551616:=by rw [IntKind.wrap_u64]
theorem jK {x:Int}:x.fdiv (2^32)=x / 4294967296:=by rw [Int.fdiv_eq_ediv_of_nonneg _ (by decide)];rfl
theorem E6 {x:Int}:x.fdiv (2^63)=x / 9223372036854775808:=by rw [Int.fdiv_eq_ediv_of_nonneg _ (by decide)];rfl
theorem yK (a b:Nat)(ha:a<4294967296)(hb:b<4294967296):aV .or .u64 ((a:Int)*4294967296) (b:Int)=(a:Int)*4294967296+b:=by
 have h1:((a:Int)*4294967296)=((a*2^32:Nat):Int):=by simp
 rw [aV,h1,og]
 have h2:(BitVec.ofInt IntKind.u64.bits ((a*2^32:Nat):Int) ||| BitVec.ofInt IntKind.u64.bits (b:Int)).toNat=a*2^32+b:=by
  show (BitVec.ofInt 64 ((a*2^32:Nat):Int) ||| BitVec.ofInt 64 (b:Int)).toNat=_
  rw [BitVec.ofInt_natCast,BitVec.ofInt_natCast,BitVec.toNat_or,BitVec.toNat_ofNat,BitVec.toNat_ofNat,Nat.mod_eq_of_lt (by omega),Nat.mod_eq_of_lt (by omega)]
  have:=Nat.shiftLeft_add_eq_or_of_lt (b:=b) (i:=32) (by omega) a
  rw [Nat.shiftLeft_eq] at this
  exact this.symm
 rw [h2]
 omega
def ay (ds:List Nat):List Value:=ds.map fun (d:Nat)=>Value.int .u32 (d:Int)
@[simp] theorem KM (ds:List Nat):(ay ds).length=ds.length:=by simp [ay]
theorem aX (ds:List Nat)(i x:Nat):(ay ds).set i (.int .u32 (x:Int))=ay (ds.set i x):=by simp [ay,List.map_set]
theorem cd (n:Nat):List.replicate n (Value.int .u32 0)=ay (List.replicate n 0):=by simp [ay]
theorem eO {ds:List Nat}{i:Nat}(h:i<ds.length):(ay ds)[i]?=some (.int .u32 (ds[i]:Int)):=by simp [ay,h]
theorem vo (ds:List Nat)(k:Nat):ay (ds.take k)=(ay ds).take k:=by simp [ay,List.map_take]
theorem C8 (ds:List Nat)(k:Nat):ay (ds.drop k)=(ay ds).drop k:=by simp [ay,List.map_drop]
theorem oW (a b:List Nat):ay (a++b)=ay a++ay b:=by simp [ay]
theorem View.Le.sl {V V':View}(h:V.Le V'){a:OA}{xs:List Value}(hs:V.sl a xs):V'.sl a xs:=
 fun i v hv=>let ⟨ad,e,ha⟩:=hs i v hv;⟨ad,e,h.at ha⟩
structure RD (V:View) (p:OA) (n c:Nat) (ds:List Nat):Prop where
 len:n=ds.length
 cap:n<=c
 sl:V.sl p (ay ds)
 dS:bC ds
 CN:p.isNone=true->c=0
theorem RD.le {V V':View}{p:OA}{n c:Nat}{ds:List Nat}(h:RD V p n c ds)(l:V.Le V'):RD V' p n c ds:=⟨h.len,h.cap,l.sl h.sl,h.dS,h.CN⟩
theorem RD.nil {V:View}:RD V none 0 0 []:=⟨rfl,Nat.le_refl _,fun i v h=>by simp [ay] at h,bC.nil,fun _=>rfl⟩
theorem RD.take {V:View}{p:OA}{n c:Nat}{ds:List Nat}(h:RD V p n c ds){k:Nat}(hk:k<=n):RD V p k c (ds.take k):=by
 have:=h.len
 refine ⟨by simp;omega,by have:=h.cap;omega,fun i v hv=>h.sl i v ?_,h.dS.take k,h.CN⟩
 rw [vo] at hv
 rw [List.getElem?_take] at hv
 split at hv
 ·exact hv
 ·cases hv
theorem RD.rd {V:View}{p:OA}{n c:Nat}{ds:List Nat}(h:RD V p n c ds){i:Int}{K:Int->Prop}(j:Nat)(hj:i=j)(hn:j<ds.length)
  (hK:K ((ds[j]:Nat):Int)):(p.isSome=true)/\(0<=i/\i<(n:Int))/\∃x:Int,(∃a,addrAdd p (i.toNat*1)=some a/\V.at a (.int .u32 x))/\K x:=by
 obtain ⟨ad,e,ha⟩:=h.sl j _ (eO hn)
 have:=h.len
 subst hj
 refine ⟨by rw [e];rfl,⟨by omega,by omega⟩,_,⟨ad.add j,?_,ha⟩,hK⟩
 rw [e];simp [addrAdd]
theorem blk_at {V:View}{b:Nat}{xs:List Value}{ty:TypeId}{m:Nat×Nat}(h:V.a_ b (.cells xs.toArray ty m)){i:Nat}{v:Value}(hv:xs[i]?=some v):V.at ⟨b,i,none⟩ v:=by
 refine ⟨h.1,?_⟩
 unfold World.cell?
 rw [h.2]
 simpa using hv
theorem add_zero' (b i:Nat):(⟨b,0,none⟩:Addr).add i=⟨b,i,none⟩:=by
 unfold Addr.add
 split
 ·rename_i h;simp_all
 ·simp
theorem RD.a_ {V:View}{b:Nat}{ds:List Nat}{ty:TypeId}{m:Nat×Nat}(h:V.a_ b (.cells (ay ds).toArray ty m))(hd:bC ds){n c:Nat}(hn:n=ds.length)(hc:n<=c):RD V (some ⟨b,0,none⟩) n c ds:=
 ⟨hn,hc,fun i v hv=>⟨_,rfl,by rw [add_zero'];exact blk_at h hv⟩,hd,fun e=>nomatch e⟩
end Go.Eng
namespace Go.Big
def bl (n:Nat):Nat:=if n=0 then 0 else n.log2+1
theorem mH (n:Nat):n<2^bl n:=by
 unfold bl;split
 ·subst_vars;decide
 ·exact Nat.lt_log2_self
theorem mG {n:Nat}(h:n≠0):2^(bl n-1)<=n:=by
 unfold bl;rw [if_neg h];exact Nat.log2_self_le h
theorem oE {n b:Nat}(h0:n<2^b)(h1:b=0\/2^(b-1)<=n):bl n=b:=by
 rcases h1 with h1|h1
 ·subst h1;have:n=0:=by simpa using h0
  subst this;rfl
 ·have hn:n≠0:=by have:=Nat.two_pow_pos (b-1);omega
  have g0:=mH n
  have g1:=mG hn
  have e1:¬bl n<b:=fun h=>by have:=Nat.pow_le_pow_right (n:=2) (by omega) (show bl n<=b-1 by omega);omega
  have e2:¬b<bl n:=fun h=>by have:=Nat.pow_le_pow_right (n:=2) (by omega) (show b<=bl n-1 by omega);omega
  omega
theorem gX {n b:Nat}:bl n<=b↔n<2^b:=by
 constructor
 ·intro h;exact Nat.lt_of_lt_of_le (mH n) (Nat.pow_le_pow_right (by omega) h)
 ·intro h
  rcases Nat.lt_or_ge b (bl n) with h'|h'
  ·have hn:n≠0:=by intro e;subst e;simp [bl] at h'
   have:=mG hn
   have:=Nat.pow_le_pow_right (n:=2) (by omega) (show b<=bl n-1 by omega)
   omega
  ·exact h'
theorem qt {n k:Nat}(h:2^k<=n):bl (n / 2^k)+k=bl n:=by
 have hp:=Nat.two_pow_pos k
 have hq:n / 2^k≠0:=by have:=Nat.div_pos h hp;omega
 have g0:=mH (n / 2^k)
 have g1:=mG hq
 refine (oE ?_ (.inr ?_)).symm
 ·rw [Nat.pow_add];exact (Nat.div_lt_iff_lt_mul hp).1 g0
 ·have hb:0<bl (n / 2^k):=by unfold bl;rw [if_neg hq];omega
  rw [show bl (n / 2^k)+k-1=bl (n / 2^k)-1+k from by omega,Nat.pow_add]
  exact (Nat.le_div_iff_mul_le hp).1 g1
end Go.Big
namespace Go.Proofs.Tryz
open Go.Eng Go.Big
theorem eK (a k:Nat):((a:Nat):Int).fdiv (2^k)=((a / 2^k:Nat):Int):=by
 rw [Int.fdiv_eq_ediv_of_nonneg _ (by have:=Int.pow_pos (n:=2) (m:=k) (by omega);omega)]
 simp
def F6:ByteArray:=⟨#[0,1,2,2,3,3,3,3,4,4,4,4,4,4,4,4,5,5,5,5,5,5,5,5,5,5,5,5,5,5,5,5,6,6,6,6,6,6,6,6,6,6,6,6,6,6,6,6,6,6,6,6,6,6,6,6,6,6,6,6,6,6,6,6,7,7,7,7,7,7,7,7,7,7,7,7,7,7,7,7,7,7,7,7,7,7,7,7,7,7,7,7,7,7,7,7,7,7,7,7,7,7,7,7,7,7,7,7,7,7,7,7,7,7,7,7,7,7,7,7,7,7,7,7,7,7,7,7,8,8,8,8,8,8,8,8,8,8,8,8,8,8,8,8,8,8,8,8,8,8,8,8,8,8,8,8,8,8,8,8,8,8,8,8,8,8,8,8,8,8,8,8,8,8,8,8,8,8,8,8,8,8,8,8,8,8,8,8,8,8,8,8,8,8,8,8,8,8,8,8,8,8,8,8,8,8,8,8,8,8,8,8,8,8,8,8,8,8,8,8,8,8,8,8,8,8,8,8,8,8,8,8,8,8,8,8,8,8,8,8,8,8,8,8,8,8,8,8,8,8,8,8,8,8,8,8]⟩
set_option maxRecDepth 10000 in
theorem Fz {V:View}(x:Nat)(hx:x<4294967296) :
  Acts prog 230 #[.int .u32 (x:Int)] V fun r V'=>r=.int .i64 (bl x:Int):=by
 refine lZ _ V _ ⟨fun z _=>∃y b:Nat,z=((y:Int),(b:Int))/\y<65536/\b<=16/\bl x=bl y+b,⟨fun h0=>⟨by omega,?_⟩,fun h0=>?_⟩,?_⟩
 ·rw [eK]
  have h0:2^16<=x:=by simp at h0;omega
  exact ⟨_,⟨rfl,rfl⟩,x / 2^16,16,rfl,by omega,by omega,(qt h0).symm⟩
 ·exact ⟨_,⟨rfl,rfl⟩,x,0,rfl,by simp at h0;omega,by omega,rfl⟩
 ·rintro _ V1 l1 ⟨y,b,rfl,hy,hb,e⟩
  rw [e];clear e
  refine ⟨by trivial,fun z _=>∃y' b':Nat,z=((y':Int),(b':Int))/\y'<256/\b'<=24/\bl y+b=bl y'+b',⟨fun h0=>⟨by omega,?_⟩,fun h0=>?_⟩,?_⟩
  ·dsimp only at h0 ⊢
   rw [eK]
   simp (disch:=omega) only [i64w]
   have h0:2^8<=y:=by simp at h0;omega
   exact ⟨(((y / 2^8:Nat):Int),(b:Int)+8),⟨rfl,rfl⟩,y / 2^8,b+8,by simp,by omega,by omega,by have:=qt h0;omega⟩
  ·exact ⟨_,⟨rfl,rfl⟩,y,b,rfl,by simp at h0;omega,by omega,rfl⟩
  ·rintro _ V2 l2 ⟨y,b,rfl,hy,hb,e⟩
   rw [e];clear e
   have hw:IntKind.u8.wrap (y:Int)=y:=IntWalk.u8_in _ (by omega)
   dsimp only
   rw [hw]
   have hsz:(F6.size:Int)=256:=rfl
   refine ⟨by trivial,⟨by omega,by show (y:Int)<(F6.size:Int);rw [hsz];omega⟩,fun V3 l3=>?_⟩
   show Value.int .i64 (i64.wrap (b+i64.wrap ((F6.data.toList.getD (y:Int).toNat 0).toNat:Int)))=_
   congr 1
   have key:∀y:Nat,y<256->(F6.data.toList.getD y 0).toNat=bl y:=by decide +kernel
   have hbl:bl y<=8:=gX.2 (by omega)
   have:=key y hy
   rw [Int.toNat_natCast,this]
   simp (disch:=omega) only [i64w]
   omega
theorem e_ {V:View}(x:Nat)(hx:x<4294967296) :
  Acts prog 194 #[.int .u32 (x:Int)] V fun r V'=>r=.int .i64 (32-(bl x:Int)):=by
 refine fW _ V _ fun V1 l1=>(Fz x hx).mono ?_
 rintro r V2 l2 rfl
 have hbl:bl x<=32:=gX.2 (by omega)
 refine ⟨_,rfl,fun V3 l3=>?_⟩
 simp (disch:=omega) only [i64w]
theorem Bp (a:Nat)(ha:a<18446744073709551616):aV .and .u64 (a:Int) 4294967295=((a%4294967296:Nat):Int):=by
 rw [aV,og]
 have h2:(BitVec.ofInt IntKind.u64.bits ((a:Nat):Int) &&& BitVec.ofInt IntKind.u64.bits 4294967295).toNat=a%4294967296:=by
  show (BitVec.ofInt 64 ((a:Nat):Int) &&& BitVec.ofInt 64 ((4294967295:Nat):Int)).toNat=_
  rw [BitVec.ofInt_natCast,BitVec.ofInt_natCast,BitVec.toNat_and,BitVec.toNat_ofNat,BitVec.toNat_ofNat,Nat.mod_eq_of_lt (by omega),Nat.mod_eq_of_lt (by omega)]
  have:=Nat.and_two_pow_sub_one_eq_mod a 32
  exact this
 rw [h2]
 omega
theorem yB (a b c d:Nat)(ha:a<4294967296)(hb:b<4294967296)(hc:c<4294967296)(hd:d<4294967296) :
  a*c+(a*d+b*d / 4294967296) / 4294967296+((a*d+b*d / 4294967296)%4294967296+b*c) / 4294967296=(a*4294967296+b)*(c*4294967296+d) / 18446744073709551616 /\
  a*c<=18446744065119617025/\a*d<=18446744065119617025/\b*c<=18446744065119617025/\b*d<=18446744065119617025:=by
 have h1:a*c<=4294967295*4294967295:=Nat.mul_le_mul (by omega) (by omega)
 have h2:a*d<=4294967295*4294967295:=Nat.mul_le_mul (by omega) (by omega)
 have h3:b*c<=4294967295*4294967295:=Nat.mul_le_mul (by omega) (by omega)
 have h4:b*d<=4294967295*4294967295:=Nat.mul_le_mul (by omega) (by omega)
 have e:(a*4294967296+b)*(c*4294967296+d)=(a*c)*18446744073709551616+(a*d)*4294967296+(b*c)*4294967296+b*d:=by grind
 rw [e]
 generalize a*c=p at *
 generalize a*d=q at *
 generalize b*c=r at *
 generalize b*d=s at *
 refine ⟨by omega,by omega,by omega,by omega,by omega⟩
theorem FA {V:View}(x y:Nat)(hx:x<18446744073709551616)(hy:y<18446744073709551616) :
  Acts prog 241 #[.int .u64 (x:Int),.int .u64 (y:Int)] V fun r V'=>r=.tuple #[.int .u64 ((x*y / 18446744073709551616:Nat):Int),.int .u64 ((x*y%18446744073709551616:Nat):Int)]:=by
 refine l_ _ _ V _ ⟨by omega,by omega,by omega,by omega,by omega,fun V1 l1=>?_⟩
 have p:=yB (x / 4294967296) (x%4294967296) (y / 4294967296) (y%4294967296) (by omega) (by omega) (by omega) (by omega)
 rw [Nat.div_add_mod' x 4294967296,Nat.div_add_mod' y 4294967296] at p
 obtain ⟨p1,p2,p3,p4,p5⟩:=p
 have hlo:u64.wrap ((x:Int)*y)=((x*y%18446744073709551616:Nat):Int):=by rw [og];simp
 rw [hlo,Bp x hx,Bp y hy,jK,jK]
 rw [←p1]
 have hA:((x:Int) / 4294967296)*((y:Int) / 4294967296)=((x / 4294967296*(y / 4294967296):Nat):Int):=by simp
 have hB:((x:Int) / 4294967296)*((y%4294967296:Nat):Int)=((x / 4294967296*(y%4294967296):Nat):Int):=by simp
 have hC:((x%4294967296:Nat):Int)*((y:Int) / 4294967296)=((x%4294967296*(y / 4294967296):Nat):Int):=by simp
 have hD:((x%4294967296:Nat):Int)*((y%4294967296:Nat):Int)=((x%4294967296*(y%4294967296):Nat):Int):=by simp
 rw [hA,hB,hC,hD]
 generalize x / 4294967296*(y / 4294967296)=a at *
 generalize x / 4294967296*(y%4294967296)=b at *
 generalize x%4294967296*(y / 4294967296)=c at *
 generalize x%4294967296*(y%4294967296)=d at *
 simp only [jK]
 have w1:u64.wrap (d:Int)=d:=aH (by omega)
 have w2:u64.wrap (b:Int)=b:=aH (by omega)
 have w3:u64.wrap (c:Int)=c:=aH (by omega)
 have w4:u64.wrap (a:Int)=a:=aH (by omega)
 rw [w1,w2,w3,w4]
 have w5:u64.wrap ((b:Int)+d / 4294967296)=((b+d / 4294967296:Nat):Int):=by rw [aH (by omega)];omega
 rw [w5,Bp _ (by omega)]
 have w6:u64.wrap (((b+d / 4294967296)%4294967296:Nat)+(c:Int))=(((b+d / 4294967296)%4294967296+c:Nat):Int):=by rw [aH (by omega)];omega
 rw [w6]
 have hlt:x*y / 18446744073709551616<18446744073709551616:=by
  have:x*y<18446744073709551616*18446744073709551616:=Nat.mul_lt_mul'' hx hy
  omega
 have w7:u64.wrap ((a:Int)+((b+d / 4294967296:Nat):Int) / 4294967296)=((a+(b+d / 4294967296) / 4294967296:Nat):Int):=by
  rw [aH (by omega)];omega
 rw [w7]
 have w8:u64.wrap (((a+(b+d / 4294967296) / 4294967296:Nat):Int)+(((b+d / 4294967296)%4294967296+c:Nat):Int) / 4294967296)=((a+(b+d / 4294967296) / 4294967296+((b+d / 4294967296)%4294967296+c) / 4294967296:Nat):Int):=by
  rw [aH (by omega)];omega
 rw [w8]
theorem Fx {V:View}(x y c:Nat)(hx:x<4294967296)(hy:y<4294967296)(hc:c<4294967296) :
  Acts prog 192 #[.int .u32 (x:Int),.int .u32 (y:Int),.int .u32 (c:Int)] V fun r V'=>r=.tuple #[.int .u32 (((x+y+c)%4294967296:Nat):Int),.int .u32 (((x+y+c) / 4294967296:Nat):Int)]:=by
 refine lW _ _ _ V _ ⟨by omega,fun V1 l1=>?_⟩
 simp (disch:=omega) only [aH,fT,jK]
 have e1:((x:Int)+y+c)%4294967296=(((x+y+c)%4294967296:Nat):Int):=by omega
 have e2:((x:Int)+y+c) / 4294967296%4294967296=(((x+y+c) / 4294967296:Nat):Int):=by omega
 rw [e1,e2]
theorem GM (a b:Nat)(ha:a<4294967296)(hb:b<4294967296):aV .and .u32 (a:Int) (b:Int)=((a &&& b:Nat):Int):=by
 have h2:(BitVec.ofInt IntKind.u32.bits ((a:Nat):Int) &&& BitVec.ofInt IntKind.u32.bits ((b:Nat):Int)).toNat=a &&& b:=by
  show (BitVec.ofInt 32 ((a:Nat):Int) &&& BitVec.ofInt 32 ((b:Nat):Int)).toNat=_
  rw [BitVec.ofInt_natCast,BitVec.ofInt_natCast,BitVec.toNat_and,BitVec.toNat_ofNat,BitVec.toNat_ofNat,Nat.mod_eq_of_lt (by omega),Nat.mod_eq_of_lt (by omega)]
 have h3:a &&& b<2^32:=Nat.and_lt_two_pow a (by omega)
 rw [aV,fT,h2]
 omega
theorem M3 (a b:Nat)(ha:a<4294967296)(hb:b<4294967296):aV .or .u32 (a:Int) (b:Int)=((a ||| b:Nat):Int):=by
 have h2:(BitVec.ofInt IntKind.u32.bits ((a:Nat):Int) ||| BitVec.ofInt IntKind.u32.bits ((b:Nat):Int)).toNat=a ||| b:=by
  show (BitVec.ofInt 32 ((a:Nat):Int) ||| BitVec.ofInt 32 ((b:Nat):Int)).toNat=_
  rw [BitVec.ofInt_natCast,BitVec.ofInt_natCast,BitVec.toNat_or,BitVec.toNat_ofNat,BitVec.toNat_ofNat,Nat.mod_eq_of_lt (by omega),Nat.mod_eq_of_lt (by omega)]
 have h3:a ||| b<2^32:=Nat.or_lt_two_pow (by omega) (by omega)
 rw [aV,fT,h2]
 omega
theorem Fi (a b:Nat)(ha:a<4294967296)(hb:b<4294967296):aV .xor .u32 (a:Int) (b:Int)=((a ^^^ b:Nat):Int):=by
 have h2:(BitVec.ofInt IntKind.u32.bits ((a:Nat):Int) ^^^ BitVec.ofInt IntKind.u32.bits ((b:Nat):Int)).toNat=a ^^^ b:=by
  show (BitVec.ofInt 32 ((a:Nat):Int) ^^^ BitVec.ofInt 32 ((b:Nat):Int)).toNat=_
  rw [BitVec.ofInt_natCast,BitVec.ofInt_natCast,BitVec.toNat_xor,BitVec.toNat_ofNat,BitVec.toNat_ofNat,Nat.mod_eq_of_lt (by omega),Nat.mod_eq_of_lt (by omega)]
 have h3:a ^^^ b<2^32:=Nat.xor_lt_two_pow (by omega) (by omega)
 rw [aV,fT,h2]
 omega
theorem KL {n:Nat}(h:n<4294967296):n / 2147483648=if n.testBit 31 then 1 else 0:=by
 rw [Nat.testBit_eq_decide_div_mod_eq]
 have:(2:Nat)^31=2147483648:=by decide
 rw [this]
 split
 ·rename_i h1;simp at h1;omega
 ·rename_i h1;simp at h1;omega
theorem Bw {n:Nat}(h:n<4294967296):n.testBit 31=decide (2147483648<=n):=by
 rw [Nat.testBit_eq_decide_div_mod_eq]
 have:(2:Nat)^31=2147483648:=by decide
 rw [this]
 congr 1
 simp;omega
theorem DB (x y c:Nat)(hx:x<4294967296)(hy:y<4294967296)(hc:c<=1){d:Nat}(hd:(d:Int)=((x:Int)-y-c)%4294967296) :
  (((4294967295 ^^^ x) &&& y) ||| ((4294967295 ^^^ (x ^^^ y)) &&& d)) / 2147483648=if x<y+c then 1 else 0:=by
 have h1:(4294967295 ^^^ x)<2^32:=Nat.xor_lt_two_pow (by omega) (by omega)
 have h2:x ^^^ y<2^32:=Nat.xor_lt_two_pow (by omega) (by omega)
 have h3:(4294967295 ^^^ (x ^^^ y))<2^32:=Nat.xor_lt_two_pow (by omega) h2
 have h4:(4294967295 ^^^ x) &&& y<2^32:=Nat.and_lt_two_pow _ (by omega)
 have h5:(4294967295 ^^^ (x ^^^ y)) &&& d<2^32:=Nat.and_lt_two_pow _ (by omega)
 have h6:=Nat.or_lt_two_pow h4 h5
 rw [KL h6]
 have hd':d<4294967296:=by omega
 rw [Nat.testBit_or,Nat.testBit_and,Nat.testBit_and,Nat.testBit_xor,Nat.testBit_xor,Nat.testBit_xor,Bw hx,Bw hy,Bw hd',Bw (n:=4294967295) (by omega)]
 by_cases a1:2147483648<=x<;>by_cases a2:2147483648<=y<;>by_cases a3:2147483648<=d<;>simp [a1,a2,a3]<;>omega
theorem FC {V:View}(x y c:Nat)(hx:x<4294967296)(hy:y<4294967296)(hc:c<=1) :
  Acts prog 193 #[.int .u32 (x:Int),.int .u32 (y:Int),.int .u32 (c:Int)] V fun r V'=>∃d b:Nat,r=.tuple #[.int .u32 (d:Int),.int .u32 (b:Int)]/\d<4294967296/\b<=1/\d+(y+c)=x+4294967296*b:=by
 refine ma _ _ _ V _ ⟨by omega,fun V1 l1=>?_⟩
 obtain ⟨d,hd⟩:∃d:Nat,(d:Int)=((x:Int)-y-c)%4294967296:=⟨(((x:Int)-y-c)%4294967296).toNat,by omega⟩
 have hd':d<4294967296:=by omega
 have w1:u32.wrap (u32.wrap ((x:Int)-y)-c)=(d:Int):=by rw [fT,fT];omega
 have w2:IntKind.u32.max=((4294967295:Nat):Int):=rfl
 have h1:(4294967295 ^^^ x)<2^32:=Nat.xor_lt_two_pow (by omega) (by omega)
 have h2:x ^^^ y<2^32:=Nat.xor_lt_two_pow (by omega) (by omega)
 have h3:(4294967295 ^^^ (x ^^^ y))<2^32:=Nat.xor_lt_two_pow (by omega) h2
 have h4:(4294967295 ^^^ x) &&& y<2^32:=Nat.and_lt_two_pow _ (by omega)
 have h5:(4294967295 ^^^ (x ^^^ y)) &&& d<2^32:=Nat.and_lt_two_pow _ (by omega)
 rw [w1,w2,Fi _ _ (by omega) hx,GM _ _ h1 hy,Fi _ _ hx hy,Fi _ _ (by omega) h2,GM _ _ h3 hd',M3 _ _ h4 h5,eK]
 have e:(2:Nat)^31=2147483648:=by decide
 rw [e,DB x y c hx hy hc hd]
 refine ⟨d,_,rfl,hd',?_,?_⟩
 ·split<;>omega
 ·split<;>omega
theorem Fy {V:View}(hi lo y:Nat)(hh:hi<y)(hl:lo<4294967296)(hy:y<4294967296) :
  Acts prog 154 #[.int .u32 (hi:Int),.int .u32 (lo:Int),.int .u32 (y:Int)] V fun r V'=>r=.tuple #[.int .u32 (((hi*4294967296+lo) / y:Nat):Int),.int .u32 (((hi*4294967296+lo)%y:Nat):Int)]:=by
 have key:∀V1:View,Value.tuple #[.int .u32 (u32.wrap (u64.wrap ((aV .or .u64 (u64.wrap ((u64.wrap (hi:Int))*2^32)) (u64.wrap (lo:Int))).tdiv (u64.wrap (y:Int))))),.int .u32 (u32.wrap ((aV .or .u64 (u64.wrap ((u64.wrap (hi:Int))*2^32)) (u64.wrap (lo:Int))).tmod (u64.wrap (y:Int))))]=.tuple #[.int .u32 (((hi*4294967296+lo) / y:Nat):Int),.int .u32 (((hi*4294967296+lo)%y:Nat):Int)]:=by
  intro _
  have e3:((2:Int)^32)=4294967296:=by decide
  have e1:u64.wrap (hi:Int)=hi:=aH (by omega)
  have e2:u64.wrap (lo:Int)=lo:=aH (by omega)
  have e4:u64.wrap (y:Int)=y:=aH (by omega)
  have e5:u64.wrap ((hi:Int)*4294967296)=(hi:Int)*4294967296:=aH (by omega)
  rw [e1,e3,e5,e2,e4,yK _ _ (by omega) hl]
  have e6:(hi:Int)*4294967296+lo=((hi*4294967296+lo:Nat):Int):=by omega
  rw [e6,←Int.ofNat_tdiv,←Int.ofNat_tmod]
  have hq:(hi*4294967296+lo) / y<4294967296:=by
   rw [Nat.div_lt_iff_lt_mul (by omega)]
   have:(hi+1)*4294967296<=y*4294967296:=Nat.mul_le_mul_right _ hh
   omega
  have hr:(hi*4294967296+lo)%y<y:=Nat.mod_lt _ (by omega)
  generalize (hi*4294967296+lo) / y=q at *
  generalize (hi*4294967296+lo)%y=r at *
  have e7:u64.wrap (q:Int)=q:=aH (by omega)
  have e8:u32.wrap (q:Int)=q:=m_ (by omega)
  have e9:u32.wrap (r:Int)=r:=m_ (by omega)
  rw [e7,e8,e9]
 have e4:u64.wrap (y:Int)=y:=aH (by omega)
 refine lY _ _ _ V _ ⟨fun _=>⟨fun h=>?_,fun _=>⟨by omega,by rw [e4];omega,by rw [e4];omega,fun V1 l1=>key V1⟩⟩,fun _=>⟨by omega,by rw [e4];omega,by rw [e4];omega,fun V1 l1=>key V1⟩⟩
 simp at h;omega
theorem aM {V:View}{p:OA}{n c:Nat}{ds:List Nat}(h:RD V p n c ds)(hm:ds.length<=4611686018427387904) :
  Acts prog 221 #[.slice p n c] V fun r V'=>∃k,r=.slice p k c/\RD V' p k c (bK ds):=by
 refine zA p n c V _ ?_
 refine ⟨fun z V'=>z.1=p/\z.2.2=c/\z.2.1<=ds.length/\bK (ds.take z.2.1)=bK ds/\RD V' p z.2.1 c (ds.take z.2.1),fun z=>z.2.1,⟨(p,n,c),⟨rfl,rfl,rfl⟩,rfl,rfl,?_⟩,?_⟩
 ·have:=h.len;subst this;simp;exact h
 ·rintro ⟨q,k,c'⟩ V1 l1 ⟨rfl,rfl,hk,ht,hR⟩
  dsimp only at hk ht hR ⊢
  refine ⟨rfl,fun h0=>?_,fun h0=>?_⟩
  ·have h0:0<k:=by simpa using h0
   simp (disch:=omega) only [i64w]
   have hl:(ds.take k).length=k:=by simp;omega
   have hs:ds.take k=ds.take (k-1)++[ds[k-1]]:=by rw [←List.take_succ_eq_append_getElem (by omega),Nat.sub_add_cancel h0]
   refine hR.rd (k-1) (by omega) (by omega) ⟨fun hz=>?_,fun hz=>?_⟩
   ·have hz:ds[k-1]=0:=by simpa using hz
    refine ⟨⟨by omega,by have:=hR.cap;omega⟩,(q,k-1,c'),by dsimp only;omega,⟨rfl,by dsimp only;omega,rfl⟩,rfl,rfl,by dsimp only;omega,?_,?_⟩
    ·dsimp only
     rw [←ht,hs,hz,fK]
    ·have:=hR.take (k:=k-1) (by omega)
     dsimp only
     rwa [List.take_take,Nat.min_eq_left (by omega)] at this
   ·have hz:ds[k-1]≠0:=by simpa using hz
    refine fun V2 l2=>⟨k,rfl,?_⟩
    rw [←ht,hs,lS _ _ hz,←hs]
    exact hR.le l2
  ·have h0:k=0:=by simpa using h0
   subst h0
   refine fun V2 l2=>⟨0,rfl,?_⟩
   rw [←ht]
   exact hR.le l2
theorem jY {V:View}{p:OA}{n c:Nat}{ds:List Nat}(h:RD V p n c ds)(hm:ds.length<=1099511627776) :
  Acts prog 223 #[.slice p n c] V fun r V'=>∃q k c',r=.slice q k c'/\RD V' q k c' ds:=by
 have hl:=h.len
 refine pR p n c V _ ⟨fun h0 V1 l1=>⟨_,_,_,rfl,?_⟩,fun h0=>⟨ay ds,h.sl,by simp [hl],by omega,by omega,by simp,by simp [hl],?_,?_⟩⟩
 ·have h0:p=none:=by simpa using h0
  subst h0
  have:ds=[]:=by
   rcases Nat.eq_zero_or_pos ds.length with e|e
   ·exact List.length_eq_zero_iff.1 e
   ·obtain ⟨ad,e,-⟩:=h.sl 0 _ (eO e)
    cases e
  subst this;exact RD.nil
 ·intro v hv
  simp only [ay,List.mem_map] at hv
  obtain ⟨d,-,rfl⟩:=hv
  rfl
 ·intro bk J sp c' h1 h2 V1 l1 b hb
  refine ⟨_,_,_,rfl,?_⟩
  simp only [Nat.zero_add,Nat.zero_mul,List.take_zero,List.nil_append] at hb h1 ⊢
  exact ⟨hl,h1,fun i v hv=>⟨_,rfl,by rw [add_zero'];exact blk_at hb (by rw [List.getElem?_append_left (by rcases Nat.lt_or_ge i (ay ds).length with e|e;exact e;rw [List.getElem?_eq_none e] at hv;cases hv)];exact hv)⟩,h.dS,fun e=>nomatch e⟩
abbrev RN (V:View)(p:OA)(n c:Nat)(x:Nat):Prop:=RD V p n c (af x)
theorem gx {V:View}{p:OA}{n c:Nat}{ds:List Nat}(h:RD V p n c ds)(hm:ds.length<=1099511627776) :
  Acts prog 187 #[.slice p n c] V fun r V'=>∃q k c',r=.slice q k c'/\RN V' q k c' (val ds):=by
 refine zw p n c V _ fun V1 l1=>(aM (h.le l1) (by omega)).mono ?_
 rintro r V2 l2 ⟨k,rfl,h2⟩
 refine ⟨_,_,_,rfl,fun V3 l3=>(jY (h2.le l3) (by have:=iT ds;omega)).mono ?_⟩
 rintro r V4 l4 ⟨q,k',c',rfl,h4⟩
 refine ⟨_,_,_,rfl,fun V5 l5=>⟨_,_,_,rfl,?_⟩⟩
 unfold RN
 rw [←aK h.dS]
 exact h4.le l5
theorem vL {V:View}{p:OA}{n c:Nat}{ds:List Nat}(h:RD V p n c ds)(hm:ds.length<=1099511627776) :
  Acts prog 203 #[.slice p n c] V fun r V'=>r=.bool (decide (af (val ds)=ds)):=by
 have hl:=h.len
 refine tS p n c V _ ⟨fun h0 V1 l1=>?_,fun h0=>?_⟩
 ·have:ds=[]:=List.length_eq_zero_iff.1 (by simp at h0;omega)
  subst this;rfl
 ·have h0:0<n:=by simp at h0;omega
  simp (disch:=omega) only [i64w]
  refine h.rd (n-1) (by omega) (by omega) fun V1 l1=>?_
  congr 1
  rw [Bool.eq_iff_iff]
  simp only [bne_iff_ne,ne_eq,decide_eq_true_eq]
  subst hl
  constructor
  ·intro hz
   exact qL h.dS (yD fun _=>by simpa using hz)
  ·intro he hz
   have:pg ds:=by rw [←he];exact gI _
   exact this.last (by omega) (by simpa using hz)
theorem cU {V:View}(u:Int)(h0:0<=u)(h1:u<18446744073709551616) :
  Acts prog 220 #[.int .u64 u] V fun r V'=>∃q k c',r=.slice q k c'/\RN V' q k c' u.toNat:=by
 obtain ⟨u,rfl⟩:=Int.eq_ofNat_of_zero_le h0
 refine pN _ V _ ⟨by omega,fun V1 l1 bk hb=>?_⟩
 rw [jK,fT,m_ (by omega)] at hb
 have hb:V1.a_ bk (.cells (ay [u%4294967296,u / 4294967296]).toArray 225 (0,0)):=by
  simpa [ay] using hb
 have hd:bC [u%4294967296,u / 4294967296]:=by simp [bC];omega
 refine (aM (RD.a_ hb hd (n:=2) (c:=2) rfl (Nat.le_refl _)) (by simp)).mono ?_
 rintro r V2 l2 ⟨k,rfl,h2⟩
 refine ⟨_,_,_,rfl,fun _ V3 l3=>⟨_,_,_,rfl,?_⟩⟩
 rw [aK hd] at h2
 have:val [u%4294967296,u / 4294967296]=(u:Int).toNat:=by simp;omega
 rw [this] at h2
 exact h2.le l3
theorem uy {V:View}{p q:OA}{n c m e:Nat}{xa xb:List Nat}(ha:RD V p n c xa)(hb:RD V q m e xb)(hm:xa.length<=1099511627776)(hn:xb.length<=1099511627776) :
  Acts prog 222 #[.slice p n c,.slice q m e] V fun r V'=>r=.int .i64 (iI (val xa) (val xb)):=by
 have la:=iT xa
 have lb:=iT xb
 refine A9 p n c q m e V _ fun V1 l1=>(aM (ha.le l1) (by omega)).mono ?_
 rintro r V2 l2 ⟨n,rfl,h1⟩
 refine ⟨_,_,_,rfl,fun V3 l3=>(aM (hb.le (l1.trans (l2.trans l3))) (by omega)).mono ?_⟩
 rintro r V4 l4 ⟨m,rfl,h2⟩
 refine ⟨_,_,_,rfl,?_⟩
 replace h1:=h1.le (l3.trans l4)
 rw [aK ha.dS] at h1 la
 rw [aK hb.dS] at h2 lb
 generalize val xa=x at *
 generalize val xb=y at *
 have hl1:=h1.len
 have hl2:=h2.len
 refine ⟨fun h0=>⟨fun h3 V5 l5=>?_,fun h3 V5 l5=>?_⟩,fun h0=>?_⟩
 ·have:=iN (a:=x) (b:=y) (by simp at h3;omega)
  rw [iI,if_pos this]
 ·have:=iN (a:=y) (b:=x) (by simp at h0 h3;omega)
  rw [iI,if_neg (by omega),if_pos this]
 ·have h0:n=m:=by simp at h0;omega
  subst h0
  simp (disch:=omega) only [i64w]
  refine ⟨fun z V'=>-1<=z/\z<n/\(af x).drop (z+1).toNat=(af y).drop (z+1).toNat,fun z=>(z+1).toNat,⟨_,by (try dsimp only);and_intros<;>trivial,by (try dsimp only);omega,by (try dsimp only);omega,?_⟩,?_⟩
  ·(try dsimp only)
   rw [List.drop_of_length_le (by omega),List.drop_of_length_le (by omega)]
  ·rintro i V7 l7 ⟨hi0,hi1,hd⟩
   dsimp only at hi0 hi1 hd ⊢
   refine ⟨by trivial,fun h3=>?_,fun h3 V5 l5=>?_⟩
   ·have h3:0<=i:=by simpa using h3
    obtain ⟨i,rfl⟩:=Int.eq_ofNat_of_zero_le h3
    simp (disch:=omega) only [i64w]
    have hd':(af x).drop (i+1)=(af y).drop (i+1):=hd
    refine (h1.le l7).rd i rfl (by omega) ((h2.le l7).rd i rfl (by omega) ⟨fun h4 V8 l8=>?_,fun h4=>?_⟩)
    ·have:=h_ (ax x) (by omega) (by omega) hd' (by simpa using h4)
     rw [ab,ab] at this
     rw [iI,if_pos this]
    ·refine (h1.le l7).rd i rfl (by omega) ((h2.le l7).rd i rfl (by omega) ⟨fun h5 V8 l8=>?_,fun h5=>?_⟩)
     ·have:=h_ (ax y) (by omega) (by omega) hd'.symm (by simpa using h5)
      rw [ab,ab] at this
      rw [iI,if_neg (by omega),if_pos this]
     ·refine ⟨_,?_,by (try dsimp only);and_intros<;>trivial,?_,?_,?_⟩
      ·(try dsimp only);omega
      ·(try dsimp only);omega
      ·(try dsimp only);omega
      ·(try dsimp only)
       have:((i:Int)-1+1).toNat=i:=by omega
       rw [this,List.drop_eq_getElem_cons (by omega),List.drop_eq_getElem_cons (l:=af y) (by omega),hd']
       congr 1
       simp at h4 h5
       omega
   ·have h3:i=-1:=by simp at h3;omega
    subst h3
    have:af x=af y:=by simpa using hd
    have:=qK this
    subst this
    simp [iI]
theorem qk {E A B c d x y W:Nat}(h:E+W*c=A+B)(hd:d=c+x+y):E+W*(d%4294967296)+W*4294967296*(d / 4294967296)=A+W*x+(B+W*y):=by
 have h1:W*(d%4294967296)+W*4294967296*(d / 4294967296)=W*d:=by
  rw [Nat.mul_assoc,←Nat.mul_add,Nat.mod_add_div]
 rw [Nat.add_assoc,h1,hd,Nat.mul_add,Nat.mul_add]
 omega
theorem Co {V:View}{p q:OA}{n c m e:Nat}{xa xb:List Nat}(ha:RD V p n c xa)(hb:RD V q m e xb)(hm:xa.length<=1099511627776)(hn:xb.length<=1099511627776) :
  Acts prog 243 #[.slice p n c,.slice q m e] V fun r V'=>∃p' n' c',r=.slice p' n' c'/\RN V' p' n' c' (val xa+val xb):=by
 have hla:=ha.len
 have hlb:=hb.len
 refine A8 p n c q m e V _ ⟨fun z V'=>∃xs ys,RD V' z.1 z.2.1 z.2.2.1 xs/\RD V' z.2.2.2.1 z.2.2.2.2.1 z.2.2.2.2.2 ys/\ys.length<=xs.length/\xs.length<=1099511627776/\val xs+val ys=val xa+val xb,⟨fun h0=>?_,fun h0=>?_⟩,?_⟩
 ·exact ⟨(_,_,_,_,_,_),by (try dsimp only);and_intros<;>trivial,xb,xa,hb,ha,by simp at h0;omega,hn,by omega⟩
 ·exact ⟨(_,_,_,_,_,_),by (try dsimp only);and_intros<;>trivial,xa,xb,ha,hb,by simp at h0;omega,hm,rfl⟩
 ·rintro ⟨p,n,c,q,m,e⟩ V1 l1 ⟨xs,ys,hx,hy,hl,hm,hv⟩
  dsimp only at hx hy ⊢
  rw [←hv]
  clear hv ha hb hla hlb
  have hlx:=hx.len
  have xh:=hy.len
  simp (disch:=omega) only [i64w,cd]
  have hn1:((n:Int)+1).toNat=n+1:=by omega
  rw [hn1]
  refine ⟨by trivial,by omega,by omega,by omega,fun z V'=>0<=z.1/\z.1<=1/\0<=z.2.1/\z.2.1<=n/\∃es:List Nat,z.2.2=ay es/\es.length=n+1/\bC es /\
   val (es.take z.2.1.toNat)+4294967296^z.2.1.toNat*z.1.toNat=val (xs.take z.2.1.toNat)+val (ys.take z.2.1.toNat),fun z=>n-z.2.1.toNat,⟨(0,0,ay (List.replicate (n+1) 0)),by (try dsimp only);and_intros<;>trivial,by (try dsimp only);omega,by (try dsimp only);omega,by (try dsimp only);omega,by (try dsimp only);omega,_,rfl,by simp,bC.rep _,by simp⟩,?_⟩
  rintro ⟨cy,i,vs⟩ V2 l2 ⟨hc0,hc1,hi0,hi1,es,rfl,hes,hde,hv⟩
  dsimp only at hc0 hc1 hi0 hi1 hv ⊢
  obtain ⟨i,rfl⟩:=Int.eq_ofNat_of_zero_le hi0
  obtain ⟨cy,rfl⟩:=Int.eq_ofNat_of_zero_le hc0
  simp only [Int.toNat_natCast] at hv
  refine ⟨by trivial,fun h3=>?_,fun h3=>?_⟩
  ·have h3:i<n:=by simpa using h3
   refine (hx.le l2).rd i rfl (by omega) ?_
   have uN:=hx.dS.get (i:=i) (by omega)
   have next:∀d:Nat,d<8589934592->val (es.take i)+4294967296^i*(d%4294967296)+4294967296^i*4294967296*(d / 4294967296)=val (xs.take (i+1))+val (ys.take (i+1)) ->
     ∃es':List Nat,(ay es).set i (.int .u32 ((d%4294967296:Nat):Int))=ay es'/\es'.length=n+1/\bC es' /\
     val (es'.take (i+1))+4294967296^(i+1)*(d / 4294967296)=val (xs.take (i+1))+val (ys.take (i+1)):=by
    intro d hd he
    refine ⟨es.set i (d%4294967296),aX _ _ _,by simpa using hes,hde.set _ _ (by omega),?_⟩
    rw [aE _ _ _ (by omega),Nat.pow_succ]
    exact he
   refine ⟨fun h4=>?_,fun h4=>?_⟩
   ·have h4:i<m:=by simpa using h4
    refine (hy.le l2).rd i rfl (by omega) ?_
    have hdy:=hy.dS.get (i:=i) (by omega)
    simp (disch:=omega) only [aH,i64w,fT,jK]
    refine ⟨⟨by omega,by omega⟩,by simp;omega,by omega,(_,_,_),?_,by (try dsimp only);and_intros<;>trivial,?_⟩
    ·(try dsimp only);omega
    ·(try dsimp only)
     have hi2:((i:Int)+1).toNat=i+1:=by omega
     obtain ⟨es',e1,e2,e3,e4⟩:=next (cy+xs[i]+ys[i]) (by omega) (by rw [aq _ _ (by omega),aq _ _ (by omega)];exact qk hv rfl)
     refine ⟨by omega,by omega,by omega,by omega,es',?_,e2,e3,?_⟩
     ·rw [←e1];simp
     ·rw [hi2,←e4];congr 2
   ·have h4:m<=i:=by simpa using h4
    simp (disch:=omega) only [aH,i64w,fT,jK]
    refine ⟨⟨by omega,by omega⟩,by simp;omega,by omega,(_,_,_),?_,by (try dsimp only);and_intros<;>trivial,?_⟩
    ·(try dsimp only);omega
    ·(try dsimp only)
     have hi2:((i:Int)+1).toNat=i+1:=by omega
     obtain ⟨es',e1,e2,e3,e4⟩:=next (cy+xs[i]) (by omega) (by
      rw [aq _ _ (by omega),ai (ds:=ys) (i:=i+1) (by omega)]
      have:=qk (y:=0) hv (d:=cy+xs[i]) rfl
      rwa [ai (ds:=ys) (by omega),Nat.mul_zero,Nat.add_zero] at this)
     refine ⟨by omega,by omega,by omega,by omega,es',?_,e2,e3,?_⟩
     ·rw [←e1];simp
     ·rw [hi2,←e4];congr 2
  ·have h3:i=n:=by simp at h3;omega
   subst h3
   simp (disch:=omega) only [m_]
   refine ⟨⟨by omega,by omega⟩,by simp;omega,fun V3 l3 bk hb=>?_⟩
   have e1:(ay es).set (0+((i:Int).toNat)*1) (.int .u32 (cy:Int))=ay (es.set i cy):=by rw [←aX];simp
   rw [e1] at hb
   have hd2:=hde.set i cy (by omega)
   refine (aM (RD.a_ hb hd2 (n:=i+1) (c:=i+1) (by simp;omega) (Nat.le_refl _)) (by simp;omega)).mono ?_
   rintro r V4 l4 ⟨k,rfl,h4⟩
   refine ⟨_,_,_,rfl,fun _ V5 l5=>⟨_,_,_,rfl,?_⟩⟩
   rw [aK hd2] at h4
   have e2:val (es.set i cy)=val xs+val ys:=by
    have:=aE es i cy (by omega)
    rw [ai (by simp;omega)] at this
    rw [this,hv,ai (by omega),ai (by omega)]
   rw [e2] at h4
   exact h4.le l5
theorem E9 {E A B c x y W:Nat}(h:E+B=A+W*c){v:Int}(hc:c<=1)(hx:x<4294967296)(hy:y<4294967296)(hv:v=((x:Int)-(c+y))%18446744073709551616) :
  0<=v/\v / 9223372036854775808<=1/\0<=v / 9223372036854775808/\E+W*(v%4294967296).toNat+(B+W*y)=A+W*x+W*4294967296*(v / 9223372036854775808).toNat:=by
 rcases Nat.lt_or_ge x (c+y) with hl|hl
 ·have e1:v=18446744073709551616+(x:Int)-(c+y):=by omega
  have e2:(v / 9223372036854775808).toNat=1:=by omega
  have e3:(v%4294967296).toNat+(c+y)=x+4294967296:=by omega
  refine ⟨by omega,by omega,by omega,?_⟩
  rw [e2,Nat.mul_one]
  have:=congrArg (W*·) e3
  simp only [Nat.mul_add] at this
  omega
 ·have e1:v=(x:Int)-(c+y):=by omega
  have e2:(v / 9223372036854775808).toNat=0:=by omega
  have e3:(v%4294967296).toNat+(c+y)=x:=by omega
  refine ⟨by omega,by omega,by omega,?_⟩
  rw [e2,Nat.mul_zero,Nat.add_zero]
  have:=congrArg (W*·) e3
  simp only [Nat.mul_add] at this
  omega
theorem Af {V:View}{p q:OA}{n c m e:Nat}{xs ys:List Nat}(hx:RD V p n c xs)(hy:RD V q m e ys)(hm:xs.length<=1099511627776)(hl:ys.length<=xs.length)(hle:val ys<=val xs) :
  Acts prog 247 #[.slice p n c,.slice q m e] V fun r V'=>∃p' n' c',r=.slice p' n' c'/\RN V' p' n' c' (val xs-val ys):=by
 have hlx:=hx.len
 have xh:=hy.len
 refine zy p n c q m e V _ ⟨by omega,by omega,by omega,fun z V'=>0<=z.1/\z.1<=1/\0<=z.2.1/\z.2.1<=n/\∃es:List Nat,z.2.2=ay es/\es.length=n/\bC es /\
   val (es.take z.2.1.toNat)+val (ys.take z.2.1.toNat)=val (xs.take z.2.1.toNat)+4294967296^z.2.1.toNat*z.1.toNat,fun z=>n-z.2.1.toNat,
   ⟨(0,0,List.replicate n (.int .u32 0)),by (try dsimp only);and_intros<;>trivial,by (try dsimp only);omega,by (try dsimp only);omega,by (try dsimp only);omega,by (try dsimp only);omega,List.replicate n 0,cd n,by simp,bC.rep _,by simp⟩,?_⟩
 rintro ⟨cy,i,vs⟩ V2 l2 ⟨hc0,hc1,hi0,hi1,es,rfl,hes,hde,hv⟩
 dsimp only at hc0 hc1 hi0 hi1 hv ⊢
 obtain ⟨i,rfl⟩:=Int.eq_ofNat_of_zero_le hi0
 obtain ⟨cy,rfl⟩:=Int.eq_ofNat_of_zero_le hc0
 simp only [Int.toNat_natCast] at hv
 refine ⟨by trivial,fun h3=>?_,fun h3=>?_⟩
 ·have h3:i<n:=by simpa using h3
  refine (hx.le l2).rd i rfl (by omega) ?_
  have uN:=hx.dS.get (i:=i) (by omega)
  refine ⟨fun z V'=>∃y:Nat,z=cy+y/\y<4294967296/\val (ys.take (i+1))=val (ys.take i)+4294967296^i*y,⟨fun h4=>?_,fun h4=>?_⟩,?_⟩
  ·have h4:i<m:=by simpa using h4
   refine (hy.le l2).rd i rfl (by omega) ?_
   have hdy:=hy.dS.get (i:=i) (by omega)
   simp (disch:=omega) only [aH]
   exact ⟨_,by (try dsimp only);and_intros<;>trivial,ys[i],rfl,hdy,aq _ _ (by omega)⟩
  ·have h4:m<=i:=by simpa using h4
   exact ⟨_,by (try dsimp only);and_intros<;>trivial,0,by simp,by omega,by rw [ai (by omega),ai (by omega)];simp⟩
  ·rintro t V3 l3 ⟨y,rfl,hdy,hy'⟩
   refine ⟨by trivial,⟨by omega,by simpa using h3⟩,by simp;omega,by omega,?_⟩
   simp (disch:=omega) only [aH,i64w,og,fT,E6]
   obtain ⟨v,qZ⟩:∃v:Int,v=((xs[i]:Int)-((cy:Int)+(y:Int)))%18446744073709551616:=⟨_,rfl⟩
   obtain ⟨g1,g2,g3,g4⟩:=E9 hv (by omega) uN hdy qZ
   rw [←qZ]
   refine ⟨(_,_,_),?_,by (try dsimp only);and_intros<;>trivial,?_⟩
   ·(try dsimp only);omega
   ·(try dsimp only)
    have hi2:((i:Int)+1).toNat=i+1:=by omega
    refine ⟨g3,g2,by omega,by omega,es.set i (v%4294967296).toNat,?_,by simpa using hes,hde.set _ _ (by omega),?_⟩
    ·rw [←aX]
     congr 2
     ·simp
     ·omega
    ·rw [hi2,aE _ _ _ (by omega),hy',g4,aq _ _ (by omega),Nat.pow_succ]
 ·have h3:i=n:=by simp at h3;omega
  subst h3
  intro V3 l3 bk hb
  refine (aM (RD.a_ hb hde (n:=i) (c:=i) hes.symm (Nat.le_refl _)) (by omega)).mono ?_
  rintro r V4 l4 ⟨k,rfl,h4⟩
  refine ⟨_,_,_,rfl,fun _ V5 l5=>⟨_,_,_,rfl,?_⟩⟩
  rw [aK hde] at h4
  rw [ai (by omega),ai (by omega),ai (by omega)] at hv
  have e1:=eR hde
  rw [hes] at e1
  have e2:cy=0:=by
   rcases Nat.eq_zero_or_pos cy with h|h
   ·exact h
   ·have:4294967296^i*1<=4294967296^i*cy:=Nat.mul_le_mul_left _ h
    omega
  subst e2
  rw [show val es=val xs-val ys from by omega] at h4
  exact h4.le l5
theorem eH {a b:Nat}:iI a b<0↔a<b:=by
 unfold iI
 split
 ·simp;omega
 ·split<;>simp<;>omega
theorem iJ {a b:Nat}:iI a b=0↔a=b:=by
 unfold iI
 split
 ·simp;omega
 ·split
  ·simp;omega
  ·simp;omega
theorem uB {V:View}{p q:OA}{n c m e:Nat}{xa xb:List Nat}(ha:RD V p n c xa)(hb:RD V q m e xb)(hm:xa.length<=1099511627776)(hn:xb.length<=1099511627776) :
  Acts prog 244 #[.slice p n c,.slice q m e] V fun r V'=>∃p' n' c',r=.tuple #[.slice p' n' c',.bool (decide (val xb<=val xa))]/\RN V' p' n' c' (val xa-val xb):=by
 refine Be p n c q m e V _ fun V1 l1=>(uy (ha.le l1) (hb.le l1) hm hn).mono ?_
 rintro r V2 l2 rfl
 refine ⟨_,rfl,fun h0 V3 l3=>?_,fun h0 V3 l3=>?_⟩
 ·have h0:val xa<val xb:=by simpa [eH] using h0
  rw [Nat.sub_eq_zero_of_le (by omega),decide_eq_false (by omega)]
  exact ⟨_,_,_,rfl,RD.nil⟩
 ·have h0:val xb<=val xa:=by simpa [←Int.not_lt,eH] using h0
  rw [decide_eq_true h0]
  refine (aM ((ha.le l1).le (l2.trans l3)) (by omega)).mono ?_
  rintro r V4 l4 ⟨n1,rfl,h1⟩
  refine ⟨_,_,_,rfl,fun V5 l5=>(aM ((hb.le l1).le (l2.trans (l3.trans (l4.trans l5)))) (by omega)).mono ?_⟩
  rintro r V6 l6 ⟨n2,rfl,h2⟩
  rw [aK ha.dS] at h1
  rw [aK hb.dS] at h2
  have:=aZ ha.dS
  refine ⟨_,_,_,rfl,fun V7 l7=>(Af (h1.le (l5.trans (l6.trans l7))) (h2.le l7) (by omega) (aB h0) (by rw [ab,ab];exact h0)).mono ?_⟩
  rintro r V8 l8 ⟨p',n',c',rfl,h3⟩
  rw [ab,ab] at h3
  exact ⟨_,_,_,rfl,fun V9 l9=>⟨_,_,_,rfl,h3.le l9⟩⟩
theorem ED (a b:Nat)(ha:a<4294967296)(hb:b<4294967296):aV .or .u64 (b:Int) ((a:Int)*4294967296)=(b:Int)+(a:Int)*4294967296:=by
 have h:aV .or .u64 (b:Int) ((a:Int)*4294967296)=aV .or .u64 ((a:Int)*4294967296) (b:Int):=by
  simp only [aV,BitVec.or_comm]
 rw [h,yK a b ha hb];omega
theorem Kp (b:Nat)(hb:b<4294967296):aV .or .u64 0 (b:Int)=b:=by
 have:=yK 0 b (by omega) hb
 simpa using this
theorem jm {V:View}{p:OA}{n c:Nat}{ds:List Nat}(h:RD V p n c ds)(hm:ds.length<=1099511627776) :
  Acts prog 186 #[.slice p n c] V fun r V'=>r=.tuple #[.int .u64 ((if val ds<18446744073709551616 then val ds else 0:Nat):Int),.bool (decide (val ds<18446744073709551616))]:=by
 refine zx p n c V _ fun V1 l1=>(aM (h.le l1) (by omega)).mono ?_
 rintro r V2 l2 ⟨n,rfl,h1⟩
 rw [aK h.dS] at h1
 generalize val ds=x at *
 have hl:=h1.len
 have h2:(af x).length<=2↔x<18446744073709551616:=az (k:=2)
 refine ⟨_,_,_,rfl,fun h0 V3 l3=>?_,fun h0=>?_⟩
 ·have h0:¬x<18446744073709551616:=by simp at h0;omega
  rw [if_neg h0,decide_eq_false h0];rfl
 ·have hx:x<18446744073709551616:=by simp at h0;omega
  rw [if_pos hx,decide_eq_true hx]
  have hn:n<=2:=by omega
  refine ⟨fun z V'=>0<=z.2/\z.2<=n/\z.1=(val ((af x).take z.2.toNat):Int),fun z=>n-z.2.toNat,⟨(0,0),by (try dsimp only);and_intros<;>trivial,by (try dsimp only);omega,by (try dsimp only);omega,by simp⟩,?_⟩
  rintro ⟨u,i⟩ V4 l4 ⟨hi0,hi1,hu⟩
  dsimp only at hi0 hi1 hu ⊢
  subst hu
  obtain ⟨i,rfl⟩:=Int.eq_ofNat_of_zero_le hi0
  simp only [Int.toNat_natCast]
  refine ⟨by trivial,fun h3=>?_,fun h3 V5 l5=>?_⟩
  ·have h3:i<n:=by simpa using h3
   refine (h1.le l4).rd i rfl (by omega) ?_
   have hd:=(ax x).get (i:=i) (by omega)
   simp (disch:=omega) only [i64w]
   refine ⟨by omega,(_,_),?_,by (try dsimp only);and_intros<;>trivial,?_⟩
   ·(try dsimp only);omega
   ·(try dsimp only)
    refine ⟨by omega,by omega,?_⟩
    have hi2:((i:Int)+1).toNat=i+1:=by omega
    rw [hi2,aq _ _ (by omega)]
    have hi:i=0\/i=1:=by omega
    rcases hi with rfl|rfl
    ·simp (disch:=omega) only [aH]
     have e1:(min ((32:Int)*((0:Nat):Int)).toNat IntKind.u64.bits)=0:=by decide
     rw [e1]
     simp (disch:=omega) only [aH,Int.pow_zero,Int.mul_one,List.take_zero,dz,Nat.pow_zero,Nat.one_mul,Nat.zero_add]
     exact Kp _ hd
    ·have e1:(min ((32:Int)*((1:Nat):Int)).toNat IntKind.u64.bits)=32:=by decide
     have h0:0<(af x).length:=by omega
     have hd0:=(ax x).get (i:=0) h0
     have e2:(af x).take 1=[(af x)[0]]:=by rw [List.take_succ_eq_append_getElem h0];rfl
     have e3:((2:Int)^32)=4294967296:=by decide
     rw [e1,e2,e3]
     simp (disch:=omega) only [aH]
     simp only [aS,dz,Nat.mul_zero,Nat.add_zero]
     rw [ED _ _ hd hd0]
     omega
  ·have h3:i=n:=by simp at h3;omega
   subst h3
   rw [ai (by omega),ab]
theorem gw {V:View}{p:OA}{n c:Nat}{ds:List Nat}(h:RD V p n c ds)(hm:ds.length<=1099511627776) :
  Acts prog 181 #[.slice p n c] V fun r V'=>r=.int .i64 (bl (val ds):Int):=by
 have hdl:=aZ h.dS
 refine zv p n c V _ fun V1 l1=>(aM (h.le l1) (by omega)).mono ?_
 rintro r V2 l2 ⟨n,rfl,h1⟩
 rw [aK h.dS] at h1
 generalize val ds=x at *
 have hl:=h1.len
 refine ⟨_,_,_,rfl,fun h0 V3 l3=>?_,fun h0=>?_⟩
 ·have:af x=[]:=List.length_eq_zero_iff.1 (by simp at h0;omega)
  have:=bf.1 this
  subst this;rfl
 ·have h0:0<n:=by simp at h0;omega
  simp (disch:=omega) only [i64w]
  refine h1.rd (n-1) (by omega) (by omega) fun V4 l4=>(e_ _ ((ax x).get (by omega))).mono ?_
  rintro r V5 l5 rfl
  refine ⟨_,rfl,fun V6 l6=>?_⟩
  have hd:=(ax x).get (i:=n-1) (by omega)
  have hnz:(af x)[n-1]≠0:=by
   have:=(gI x).last (by omega)
   simpa [hl] using this
  have hb:bl (af x)[n-1]<=32:=gX.2 (by omega)
  simp (disch:=omega) only [i64w]
  have key:bl x=32*(n-1)+bl (af x)[n-1]:=by
   have e:=fl (af x) (n-1) (by omega)
   rw [ab,List.drop_of_length_le (by omega)] at e
   simp only [dz,Nat.mul_zero,Nat.add_zero] at e
   have hlt:=eR ((ax x).take (n-1))
   rw [List.length_take,Nat.min_eq_left (by omega)] at hlt
   have e32:(4294967296:Nat)^(n-1)=2^(32*(n-1)):=by rw [Nat.pow_mul]
   rw [e32] at e hlt
   generalize (af x)[n-1]=d at *
   have g0:=mH d
   have g1:=mG hnz
   have hbp:0<bl d:=by unfold bl;rw [if_neg hnz];omega
   refine oE ?_ (.inr ?_)
   ·rw [Nat.pow_add]
    have:2^(32*(n-1))*(d+1)<=2^(32*(n-1))*2^bl d:=Nat.mul_le_mul_left _ g0
    rw [Nat.mul_add,Nat.mul_one] at this
    omega
   ·rw [show 32*(n-1)+bl d-1=32*(n-1)+(bl d-1) from by omega,Nat.pow_add]
    have:2^(32*(n-1))*2^(bl d-1)<=2^(32*(n-1))*d:=Nat.mul_le_mul_left _ g1
    omega
  rw [key]
  congr 1
  omega
theorem yC {E S c t x y e Y B D:Nat}(h:E+B*D*c=S+B*x*Y)(ht:t=c+x*y+e) :
  E+B*D*(t%4294967296)+B*D*4294967296*(t / 4294967296)=S+B*D*e+B*x*(Y+D*y):=by
 have h1:B*D*(t%4294967296)+B*D*4294967296*(t / 4294967296)=B*D*t:=by
  rw [Nat.mul_assoc (B*D),←Nat.mul_add,Nat.mod_add_div]
 rw [Nat.add_assoc,h1,ht]
 grind
theorem fe {V:View}{p q:OA}{n c m e:Nat}{xa xb:List Nat}(ha:RD V p n c xa)(hb:RD V q m e xb)(hm:xa.length+xb.length<=1099511627776) :
  Acts prog 206 #[.slice p n c,.slice q m e] V fun r V'=>∃p' n' c',r=.slice p' n' c'/\RN V' p' n' c' (val xa*val xb):=by
 have la:=aZ ha.dS
 have lb:=aZ hb.dS
 refine Ba p n c q m e V _ fun V1 l1=>(aM (ha.le l1) (by omega)).mono ?_
 rintro r V2 l2 ⟨n,rfl,hx⟩
 rw [aK ha.dS] at hx
 refine ⟨_,_,_,rfl,fun V3 l3=>(aM (hb.le (l1.trans (l2.trans l3))) (by omega)).mono ?_⟩
 rintro r V4 l4 ⟨m,rfl,hy⟩
 rw [aK hb.dS] at hy
 replace hx:=hx.le (l3.trans l4)
 have hlx:=hx.len
 have xh:=hy.len
 have JV:val xa=val (af (val xa)):=(ab _).symm
 have O8:val xb=val (af (val xb)):=(ab _).symm
 rw [JV,O8]
 clear JV O8
 generalize af (val xa)=xs at *
 generalize af (val xb)=ys at *
 refine ⟨_,_,_,rfl,?_⟩
 simp (disch:=omega) only [i64w,cd]
 have hnm:((n:Int)+m).toNat=n+m:=by omega
 rw [hnm]
 refine ⟨by omega,by omega,by omega,fun z V'=>0<=z.1/\z.1<=n/\∃es:List Nat,z.2=ay es/\es.length=n+m/\bC es /\
  val (es.take (z.1.toNat+m))=val (xs.take z.1.toNat)*val ys,fun z=>n-z.1.toNat,⟨(0,ay (List.replicate (n+m) 0)),by (try dsimp only);and_intros<;>trivial,by (try dsimp only);omega,by (try dsimp only);omega,_,rfl,by simp,bC.rep _,by simp [qg,List.take_replicate]⟩,?_⟩
 rintro ⟨i,vs⟩ V5 l5 ⟨hi0,hi1,es,rfl,hes,hde,hv⟩
 dsimp only at hi0 hi1 hv ⊢
 obtain ⟨i,rfl⟩:=Int.eq_ofNat_of_zero_le hi0
 simp only [Int.toNat_natCast] at hv
 refine ⟨by trivial,fun h3=>?_,fun h3=>?_⟩
 ·have h3:i<n:=by simpa using h3
  refine (hx.le l5).rd i rfl (by omega) ?_
  have uN:=hx.dS.get (i:=i) (by omega)
  refine ⟨fun z V'=>0<=z.1/\z.1<=4294967295/\0<=z.2.1/\z.2.1<=m/\∃fs:List Nat,z.2.2=ay fs/\fs.length=n+m/\bC fs/\fs.drop (i+z.2.1.toNat)=es.drop (i+z.2.1.toNat) /\
   val (fs.take (i+z.2.1.toNat))+4294967296^(i+z.2.1.toNat)*z.1.toNat=val (es.take (i+z.2.1.toNat))+4294967296^i*xs[i]*val (ys.take z.2.1.toNat),fun z=>m-z.2.1.toNat,
   ⟨(0,0,ay es),by (try dsimp only);and_intros<;>trivial,by (try dsimp only);omega,by (try dsimp only);omega,by (try dsimp only);omega,by (try dsimp only);omega,es,rfl,hes,hde,rfl,by simp⟩,?_⟩
  rintro ⟨cy,k,vs⟩ V6 l6 ⟨hc0,hc1,hk0,hk1,fs,rfl,hfs,hdf,hdr,hw⟩
  dsimp only at hc0 hc1 hk0 hk1 hdr hw ⊢
  obtain ⟨k,rfl⟩:=Int.eq_ofNat_of_zero_le hk0
  obtain ⟨cy,rfl⟩:=Int.eq_ofNat_of_zero_le hc0
  simp only [Int.toNat_natCast] at hdr hw
  refine ⟨by trivial,fun h4=>?_,fun h4=>?_⟩
  ·have h4:k<m:=by simpa using h4
   refine (hy.le (l5.trans l6)).rd k rfl (by omega) ?_
   have hdy:=hy.dS.get (i:=k) (by omega)
   have Mk:=hdf.get (i:=i+k) (by omega)
   have hef:fs[i+k]'(by omega)=es[i+k]'(by omega):=by
    have h1:fs[i+k]?=es[i+k]?:=by
     have:=congrArg (fun l=>l[0]?) hdr
     simpa [List.getElem?_drop] using this
    rw [List.getElem?_eq_getElem (by omega),List.getElem?_eq_getElem (by omega)] at h1
    exact Option.some.inj h1
   simp (disch:=omega) only [i64w]
   have hik:((i:Int)+k).toNat=i+k:=by omega
   rw [hik]
   refine ⟨⟨by omega,by omega⟩,((fs[i+k]'(by omega):Nat):Int),by rw [Nat.zero_add,Nat.mul_one];exact eO (by omega),⟨by omega,by omega⟩,by simp;omega,by omega,?_⟩
   have hxy:xs[i]*ys[k]<=4294967295*4294967295:=Nat.mul_le_mul (by omega) (by omega)
   have HZ:(xs[i]:Int)*(ys[k]:Int)=((xs[i]*ys[k]:Nat):Int):=by simp
   obtain ⟨t,ht⟩:∃t:Nat,t=cy+xs[i]*ys[k]+fs[i+k]'(by omega):=⟨_,rfl⟩
   rw [Nat.pow_add] at hw
   have hstep:=yC hw ht
   have e1:u64.wrap ((cy:Int)+u64.wrap (u64.wrap (u64.wrap (xs[i]:Int)*u64.wrap (ys[k]:Int))+u64.wrap ((fs[i+k]'(by omega):Nat):Int)))=(t:Int):=by
    clear hstep
    generalize xs[i]*ys[k]=pq at *
    rw [aH (x:=(xs[i]:Int)) (by omega),aH (x:=(ys[k]:Int)) (by omega),HZ,aH (x:=((pq:Nat):Int)) (by omega)]
    simp (disch:=omega) only [aH]
    omega
   rw [e1,fT,jK]
   refine ⟨(_,_,_),?_,by (try dsimp only);and_intros<;>trivial,?_⟩
   ·(try dsimp only);omega
   ·(try dsimp only)
    have hk2:((k:Int)+1).toNat=k+1:=by omega
    refine ⟨by omega,by omega,by omega,by omega,fs.set (i+k) (t%4294967296),?_,by simpa using hfs,hdf.set _ _ (by omega),?_,?_⟩
    ·rw [←aX];simp
    ·rw [hk2,List.drop_set_of_lt (by omega)]
     have:=congrArg (List.drop 1) hdr
     simpa [List.drop_drop,Nat.add_comm,Nat.add_assoc,Nat.add_left_comm] using this
    ·rw [hk2,show i+(k+1)=i+k+1 from by omega,aE _ _ _ (by omega),aq es (i+k) (by omega),aq ys k (by omega),←hef,Nat.pow_succ]
     have e2:((t:Int) / 4294967296).toNat=t / 4294967296:=by omega
     rw [e2,Nat.pow_add,hstep]
  ·have h4:k=m:=by simp at h4;omega
   subst h4
   simp (disch:=omega) only [i64w]
   have hik:((i:Int)+k).toNat=i+k:=by omega
   rw [hik]
   refine ⟨⟨by omega,by omega⟩,by simp;omega,(_,_),?_,by (try dsimp only);and_intros<;>trivial,?_⟩
   ·(try dsimp only);omega
   ·(try dsimp only)
    have hi2:((i:Int)+1).toNat=i+1:=by omega
    refine ⟨by omega,by omega,fs.set (i+k) cy,?_,by simpa using hfs,hdf.set _ _ (by omega),?_⟩
    ·rw [←aX,m_ (by omega)];simp
    ·rw [hi2,show i+1+k=i+k+1 from by omega,aE _ _ _ (by omega),hw,hv,aq xs i (by omega),ai (ds:=ys) (by omega)]
     grind
 ·have h3:i=n:=by simp at h3;omega
  subst h3
  intro V6 l6 bk hb'
  refine (aM (RD.a_ hb' hde (n:=i+m) (c:=i+m) (by omega) (Nat.le_refl _)) (by omega)).mono ?_
  rintro r V7 l7 ⟨k,rfl,h4⟩
  refine ⟨_,_,_,rfl,fun _ V8 l8=>⟨_,_,_,rfl,?_⟩⟩
  rw [aK hde] at h4
  rw [ai (by omega),ai (by omega)] at hv
  rw [hv] at h4
  exact h4.le l8
theorem rV {x A d q r rest B W:Nat}(hA:A=d*B+rest)(h:d*q+r=rest*W+x):x+W*A=d*(q+W*B)+r:=by
 subst hA;grind
theorem xJ {V:View}{p:OA}{n c:Nat}{xs:List Nat}(hx:RD V p n c xs)(hm:xs.length<=1099511627776)(d:Nat)(hd0:d≠0)(hd:d<4294967296) :
  Acts prog 224 #[.slice p n c,.int .u32 (d:Int)] V fun r V'=>∃p' n' c',r=.tuple #[.slice p' n' c',.int .u32 ((val xs%d:Nat):Int)]/\RN V' p' n' c' (val xs / d):=by
 have hlx:=hx.len
 refine wR p n c d V _ ⟨by omega,by omega,by omega,?_⟩
 simp (disch:=omega) only [i64w,aH,Int.toNat_natCast,cd]
 refine ⟨fun z V'=>0<=z.1/\z.1<d/\-1<=z.2.1/\z.2.1<n/\∃es:List Nat,z.2.2=ay es/\es.length=n/\bC es /\
   val (xs.drop (z.2.1+1).toNat)=d*val (es.drop (z.2.1+1).toNat)+z.1.toNat,fun z=>(z.2.1+1).toNat,
   ⟨(0,(n:Int)-1,ay (List.replicate n 0)),by (try dsimp only);and_intros<;>trivial,by (try dsimp only);omega,by (try dsimp only);omega,by (try dsimp only);omega,by (try dsimp only);omega,_,rfl,by simp,bC.rep _,?_⟩,?_⟩
 ·(try dsimp only)
  rw [List.drop_of_length_le (by omega),List.drop_of_length_le (by simp)];rfl
 rintro ⟨rest,i,vs⟩ V2 l2 ⟨hr0,hr1,hi0,hi1,es,rfl,hes,hde,hv⟩
 dsimp only at hr0 hr1 hi0 hi1 hv ⊢
 obtain ⟨rest,rfl⟩:=Int.eq_ofNat_of_zero_le hr0
 refine ⟨by trivial,fun h3=>?_,fun h3=>?_⟩
 ·have h3:0<=i:=by simpa using h3
  obtain ⟨i,rfl⟩:=Int.eq_ofNat_of_zero_le h3
  have hi2:((i:Int)+1).toNat=i+1:=by omega
  rw [hi2] at hv
  simp only [Int.toNat_natCast] at hv
  refine ⟨by omega,(hx.le l2).rd i rfl (by omega) ?_⟩
  have uN:=hx.dS.get (i:=i) (by omega)
  have e1:aV .or .u64 (u64.wrap ((rest:Int)*2^32)) (u64.wrap ((xs[i]:Nat):Int))=((rest*4294967296+xs[i]:Nat):Int):=by
   have e3:((2:Int)^32)=4294967296:=by decide
   rw [e3,aH (by omega),aH (by omega),yK _ _ (by omega) uN];omega
  rw [e1]
  have e2:((rest*4294967296+xs[i]:Nat):Int).tdiv (d:Int)=(((rest*4294967296+xs[i]) / d:Nat):Int):=by
   rw [Int.tdiv_eq_ediv_of_nonneg (by omega)];omega
  have e4:((rest*4294967296+xs[i]:Nat):Int).tmod (d:Int)=(((rest*4294967296+xs[i])%d:Nat):Int):=by
   rw [Int.tmod_eq_emod_of_nonneg (by omega)];omega
  rw [e2,e4]
  have hq:(rest*4294967296+xs[i]) / d<4294967296:=by
   rw [Nat.div_lt_iff_lt_mul (by omega)]
   have:rest+1<=d:=by omega
   have:=Nat.mul_le_mul_right 4294967296 this
   rw [Nat.mul_comm 4294967296 d]
   omega
  have hr:(rest*4294967296+xs[i])%d<d:=Nat.mod_lt _ (by omega)
  have Dg:=Nat.div_add_mod (rest*4294967296+xs[i]) d
  generalize (rest*4294967296+xs[i]) / d=q at *
  generalize (rest*4294967296+xs[i])%d=r at *
  simp (disch:=omega) only [aH,m_,i64w]
  refine ⟨by omega,⟨by omega,by omega⟩,by simp;omega,by omega,?_⟩
  refine ⟨((r:Int),(i:Int)-1,ay (es.set i q)),?_,?_,?_⟩
  ·(try dsimp only);omega
  ·(try dsimp only);and_intros<;>first|trivial|(rw [←aX];simp)
  ·(try dsimp only)
   refine ⟨by omega,by omega,by omega,by omega,_,rfl,by simpa using hes,hde.set _ _ (by omega),?_⟩
   have hi3:((i:Int)-1+1).toNat=i:=by omega
   rw [hi3,List.drop_eq_getElem_cons (by omega),List.drop_eq_getElem_cons (l:=es.set i q) (by simp;omega),List.getElem_set_self,List.drop_set_of_lt (by omega)]
   have h9:xs[i]+4294967296*val (List.drop (i+1) xs)=d*(q+4294967296*val (List.drop (i+1) es))+r:=rV hv Dg
   rw [aS,aS,Int.toNat_natCast]
   exact h9
 ·have h3:i=-1:=by simp at h3;omega
  subst h3
  simp only [Int.toNat_natCast] at hv
  have hv:val xs=d*val es+rest:=by simpa using hv
  intro V3 l3 bk hb
  refine (aM (RD.a_ hb hde (n:=n) (c:=n) (by omega) (Nat.le_refl _)) (by omega)).mono ?_
  rintro r V4 l4 ⟨k,rfl,h4⟩
  refine ⟨_,_,_,rfl,fun _ V5 l5=>?_⟩
  have e1:val xs / d=val es:=by rw [hv,Nat.mul_add_div (by omega),Nat.div_eq_of_lt (by omega),Nat.add_zero]
  have e2:val xs%d=rest:=by rw [hv,Nat.mul_add_mod,Nat.mod_eq_of_lt (by omega)]
  rw [m_ (by omega),e1,e2]
  rw [aK hde] at h4
  exact ⟨_,_,_,rfl,h4.le l5⟩
theorem AJ (a b:Nat)(ha:a<4294967296)(hb:b<4294967296):aV .or .u32 (a:Int) (b:Int)=((a ||| b:Nat):Int):=by
 rw [aV,fT]
 have h2:(BitVec.ofInt IntKind.u32.bits ((a:Nat):Int) ||| BitVec.ofInt IntKind.u32.bits (b:Int)).toNat=a ||| b:=by
  show (BitVec.ofInt 32 ((a:Nat):Int) ||| BitVec.ofInt 32 (b:Int)).toNat=_
  rw [BitVec.ofInt_natCast,BitVec.ofInt_natCast,BitVec.toNat_or,BitVec.toNat_ofNat,BitVec.toNat_ofNat,Nat.mod_eq_of_lt (by omega),Nat.mod_eq_of_lt (by omega)]
 have h3:a ||| b<2^32:=Nat.or_lt_two_pow (by omega) (by omega)
 rw [h2]
 omega
theorem Io {c m r:Nat}(h:c<2^r):c ||| m*2^r=c+m*2^r:=by
 rw [Nat.or_comm,←Nat.shiftLeft_eq,←Nat.shiftLeft_add_eq_or_of_lt h,Nat.add_comm]
theorem zb {d r c:Nat}(hd:d<4294967296)(hr:r<32)(hc:c<2^r) :
  c ||| (d*2^r%4294967296)=c+d*2^r%4294967296/\c+d*2^r%4294967296<4294967296/\d*2^r / 4294967296<2^r/\d*2^r<18446744073709551616:=by
 have e:4294967296=2^(32-r)*2^r:=by rw [←Nat.pow_add,Nat.sub_add_cancel (by omega)]
 have h1:d*2^r%4294967296=(d%2^(32-r))*2^r:=by
  rw [e,Nat.mul_mod_mul_right]
 have h2:d%2^(32-r)+1<=2^(32-r):=Nat.mod_lt _ (Nat.two_pow_pos _)
 have h3:=Nat.mul_le_mul_right (2^r) h2
 have h4:2^r<=2^31:=Nat.pow_le_pow_right (by omega) (by omega)
 have h5:d*2^r<4294967296*2^r:=Nat.mul_lt_mul_of_pos_right hd (Nat.two_pow_pos _)
 refine ⟨by rw [h1,Io hc],?_,?_,by omega⟩
 ·rw [h1]
  rw [Nat.add_mul,Nat.one_mul] at h3
  rw [←e] at h3
  omega
 ·rw [Nat.div_lt_iff_lt_mul (by omega),Nat.mul_comm (2^r)];exact h5
theorem uA {V:View}{p:OA}{n c:Nat}{ds:List Nat}(h:RD V p n c ds)(hm:ds.length<=1099511627776)(k:Nat)(hk:k<=1048576) :
  Acts prog 239 #[.slice p n c,.int .u64 (k:Int)] V fun r V'=>∃p' n' c',r=.slice p' n' c'/\RN V' p' n' c' (val ds*2^k)/\(val ds=0\/c'=(af (val ds)).length+k / 32+1):=by
 have hdl:=aZ h.dS
 refine Bb p n c k V _ fun V1 l1=>(aM (h.le l1) (by omega)).mono ?_
 rintro r V2 l2 ⟨n,rfl,hx⟩
 rw [aK h.dS] at hx
 generalize hxv:val ds=x at *
 have hl:=hx.len
 refine ⟨_,_,_,rfl,fun h0 V3 l3=>?_,fun h0=>?_⟩
 ·have:af x=[]:=List.length_eq_zero_iff.1 (by simp at h0;omega)
  have:=bf.1 this
  subst this
  rw [Nat.zero_mul]
  exact ⟨_,_,_,rfl,RD.nil,.inl rfl⟩
 ·have h0:0<n:=by simp at h0;omega
  have e1:br (k:Int) 1048576=k:=by unfold br;rw [if_neg (by omega)]
  have e2:(k:Int).tdiv 32=((k / 32:Nat):Int):=by rw [Int.tdiv_eq_ediv_of_nonneg (by omega)];omega
  have e3:(k:Int).tmod 32=((k%32:Nat):Int):=by rw [Int.tmod_eq_emod_of_nonneg (by omega)];omega
  rw [e1,e2,e3]
  have hk2:x*2^k=4294967296^(k / 32)*x*2^(k%32):=by
   have:2^k=4294967296^(k / 32)*2^(k%32):=by
    rw [show (4294967296:Nat)=2^32 from rfl,←Nat.pow_mul,←Nat.pow_add,Nat.div_add_mod]
   rw [this];grind
  rw [hk2]
  generalize hw:k / 32=w at *
  have hrl:k%32<32:=Nat.mod_lt _ (by omega)
  have hwl:w<=32768:=by omega
  generalize k%32=r at *
  clear e1 e2 e3
  simp (disch:=omega) only [i64w,aH,cd]
  have hnw:((n:Int)+w+1).toNat=n+w+1:=by omega
  rw [hnw]
  refine ⟨by omega,by omega,by omega,by omega,by omega,fun z V'=>0<=z.1/\z.1<=n/\∃es:List Nat,z.2=ay es/\es.length=n+w+1/\bC es/\(∀c,es[z.1.toNat+w]?=some c->c<2^r) /\
   val (es.take (z.1.toNat+w+1))=4294967296^w*val ((af x).take z.1.toNat)*2^r,fun z=>n-z.1.toNat,
   ⟨(0,ay (List.replicate (n+w+1) 0)),by (try dsimp only);and_intros<;>trivial,by (try dsimp only);omega,by (try dsimp only);omega,_,rfl,by simp,bC.rep _,?_,?_⟩,?_⟩
  ·intro c hc
   rw [List.getElem?_replicate] at hc
   split at hc
   ·cases hc;exact Nat.two_pow_pos r
   ·cases hc
  ·simp [List.take_replicate,qg]
  rintro ⟨i,vs⟩ V4 l4 ⟨hi0,hi1,es,rfl,hes,hde,hc,hv⟩
  dsimp only at hi0 hi1 hc hv ⊢
  obtain ⟨i,rfl⟩:=Int.eq_ofNat_of_zero_le hi0
  simp only [Int.toNat_natCast] at hc hv
  refine ⟨by trivial,fun h3=>?_,fun h3=>?_⟩
  ·have h3:i<n:=by simpa using h3
   refine (hx.le l4).rd i rfl (by omega) ?_
   have uN:=(ax x).get (i:=i) (by omega)
   have hce:=hc (es[i+w]'(by omega)) (List.getElem?_eq_getElem _)
   obtain ⟨g1,g2,g3,g4⟩:=zb uN hrl hce
   have hmin:(min ((r:Nat):Int).toNat IntKind.u64.bits)=r:=by
    show min _ 64=r
    omega
   have hp:((2:Int)^r)=((2^r:Nat):Int):=by simp
   rw [hmin,hp]
   have hmul:(((af x)[i]:Nat):Int)*((2^r:Nat):Int)=(((af x)[i]*2^r:Nat):Int):=by simp
   simp (disch:=omega) only [i64w]
   rw [aH (x:=(((af x)[i]:Nat):Int)) (by omega),hmul,aH (by omega),fT,jK]
   have hiw:((i:Int)+w).toNat=i+w:=by omega
   have Ms:((i:Int)+w+1).toNat=i+w+1:=by omega
   rw [hiw,Ms]
   refine ⟨by omega,⟨by omega,by omega⟩,((es[i+w]'(by omega):Nat):Int),by rw [Nat.zero_add,Nat.mul_one];exact eO (by omega),⟨by omega,by omega⟩,by simp;omega,by omega,⟨by omega,by omega⟩,by simp;omega,?_⟩
   have ec:(((af x)[i]*2^r:Nat):Int)%4294967296=(((af x)[i]*2^r%4294967296:Nat):Int):=by omega
   have ed:(((af x)[i]*2^r:Nat):Int) / 4294967296=(((af x)[i]*2^r / 4294967296:Nat):Int):=by omega
   rw [ec,ed,AJ _ _ (by omega) (by omega),g1]
   have Dg:=Nat.mod_add_div ((af x)[i]*2^r) 4294967296
   have hd2:(af x)[i]*2^r / 4294967296<4294967296:=by omega
   have hdr:val (List.take (i+1) (af x))=val (List.take i (af x))+4294967296^i*(af x)[i]:=aq _ _ (by omega)
   have HH:val (es.take (i+w+1))=val (es.take (i+w))+4294967296^(i+w)*es[i+w]'(by omega):=aq _ _ (by omega)
   generalize (af x)[i]*2^r%4294967296=lo at *
   generalize hhi:(af x)[i]*2^r / 4294967296=hi at *
   rw [m_ (by omega)]
   refine ⟨((i:Int)+1,ay ((es.set (i+w) (es[i+w]'(by omega)+lo)).set (i+w+1) hi)),?_,?_,?_⟩
   ·(try dsimp only);omega
   ·(try dsimp only);and_intros<;>first|trivial|(rw [←aX,←aX];simp)
   ·(try dsimp only)
    have hi2:((i:Int)+1).toNat=i+1:=by omega
    refine ⟨by omega,by omega,_,rfl,by simpa using hes,(hde.set _ _ (by omega)).set _ _ (by omega),?_,?_⟩
    ·intro c hc'
     rw [hi2,show i+1+w=i+w+1 from by omega,List.getElem?_set_self (by simp;omega)] at hc'
     cases hc';exact g3
    ·rw [hi2,show i+1+w+1=i+w+1+1 from by omega,aE _ _ _ (by simp;omega),aE _ _ _ (by omega),hdr]
     rw [HH] at hv
     have hA:4294967296^(i+w+1)*hi=4294967296^(i+w)*(4294967296*hi):=by rw [Nat.pow_succ];grind
     rw [hA,Nat.mul_add,←Nat.add_assoc,hv,Nat.add_assoc,←Nat.mul_add,Dg,Nat.pow_add]
     grind
  ·have h3:i=n:=by simp at h3;omega
   subst h3
   intro V5 l5 bk hb
   refine (aM (RD.a_ hb hde (n:=i+w+1) (c:=i+w+1) (by omega) (Nat.le_refl _)) (by omega)).mono ?_
   rintro r' V6 l6 ⟨k',rfl,h4⟩
   refine ⟨_,_,_,rfl,fun _ V7 l7=>⟨_,_,_,rfl,?_,.inr (by omega)⟩⟩
   rw [ai (by omega),ai (by omega),ab] at hv
   rw [aK hde,hv] at h4
   exact h4.le l7
end Go.Proofs.Tryz
