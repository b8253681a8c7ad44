import Derived.Test.YthpmdmkmfoaamaaGreatDoorG5
import Derived.Test.YthpmdmkmfoaamaaGreatDoorCards
import Derived.Test.YthpmdmkmfoaamaaGreatDoorTie
import Derived.WalkKit
import Derived.ProofKit
import Derived.OpenShut
import Derived.Deep.DeepHandedRow
import Derived.LaidLaws
import Derived.Lay
import Derived.Carry
import Derived.LaidEql
import Derived.Stop.Asserts
import Derived.RowKitTokens
import Derived.IntWalk
import Derived.Test.YthpmdmkmfoaamaaGreatDoorG6
set_option linter.unusedVariables false
open Go.IntKind (i64 u64 u32)
namespace Go.Proofs.YthpmdmkmfoaamaaGreatDoor
open Go.ChangeShapes Go.WideShapes Go.ChangeAt Go.RowKit Go.bK
theorem own:ownKnob Tryz.prog.godebug=none:=by kernel_rfl
theorem star : "*" ++ "errors.errorString" = "*errors.errorString" := by decide
theorem SX (u : TypeId)(h : Tryz.prog.typeName? 3 u = some "*errors.errorString") : u = 315 :=
 typeName_ptr_named (nm := "errors.errorString") (by rw [star]; kernel_rfl) (by kernel_rfl) (by decide) u (by rw [star]; exact h)
theorem Kr:Tryz.prog.cellsOf 339=1:=by kernel_rfl
theorem Ks:Tryz.prog.cellsOf 9=1:=by kernel_rfl
theorem SW (g:Nat):MemPlace.cell g 0∈MemPlace.row ⟨g,0,none⟩ 1:=by simp [MemPlace.row]
theorem Jx {P:Program}{W:World}{name:String}{g:Nat}{v:Value}(hg:P.globalNamed name=some g)(h:W.var? P name=some #[v]):W.cell? ⟨g,0,none⟩=some v:=by simpa using World.var?_cell hg h 0
set_option maxRecDepth 100000 in
theorem zL {W:World}{l:List (String×DataW Unit)}{name:String}{text:List UInt8}{g:Nat}(hg:Tryz.prog.globalNamed name=some g)(hty:(Tryz.prog.globals[g]?).map (·.type)=some 37)
  (hm : (name, .iface "*errors.errorString" (.ptr (.agg [.lit (.string text)]))) ∈ l)(h : laidMet Tryz.prog l W) :
  ∃a,W.cell? ⟨g,0,none⟩=some (.iface 315 (.pointer (some a))):=by
 obtain ⟨ps,hv,-,hrows⟩:=h
 induction l generalizing ps with
 | nil=>cases hm
 | cons x r ih=>
  obtain ⟨n,d⟩:=x
  obtain ⟨g',t,cs,fuel,p,q,hg',Bc,hvar,hd,hr,rfl⟩:=hv
  rcases List.mem_cons.1 hm with e|hm
  ·cases e
   obtain rfl:=Option.some.inj (hg.symm.trans hg')
   obtain rfl:=Option.some.inj (hty.symm.trans Bc)
   obtain ⟨l0⟩:=cs
   have ok0:∀u v,l0=[.iface u v]->Value.okWide Tryz.prog W .any 0 u v:=fun u v e=>by
    subst e
    exact (hrows g 0 (List.mem_append_left _ (List.mem_append_left _ (SW g)))).2 u v (Jx hg hvar)
   obtain ⟨a,s,rfl,-⟩:=errorString_of_trod Tryz.underlying37 SX Tryz.underlying315 Tryz.underlying339 rfl rfl Tryz.underlying9 Kr Ks hd ok0
   exact ⟨a,Jx hg hvar⟩
  ·exact ih hm q hr fun b off hb=>hrows b off (List.mem_append_right _ hb)
def View.all (W:World):View:=⟨W,fun _=>False,fun _=>False,fun _ h=>h.elim,fun _ h=>h⟩
theorem Bj {w w':World}(h:iC (fun _=>False) w w')(may:MemPlace->Prop):w.keptBut w' may:=by
 refine ⟨h.os,h.out,fun i hi=>?_⟩
 rw [h.bE i hi (fun h=>h)]
 cases w.heap[i]? with
 | none=>rfl
 | some o=>cases o<;>simp
theorem wG {f:FuncId}{args:Array Value}{W:World}{R:Value->Prop}(h:ab Tryz.prog f args (View.all W) fun r _=>R r):Calls Tryz.prog f args W fun e w'=>∃r,e=.returned r/\R r/\iC (fun _=>False) W w':=
 h.2.mono fun e w' ⟨r,he,hx,hr⟩=>⟨r,he,hr,hx⟩
theorem laidOut:laidOutB Tryz.prog=true:=by kernel_rfl
theorem yO {w w':World}(h:iC (fun _=>False) w w'):Below w.heap.size w w':=⟨h.os,h.tape,h.out,h.size,fun k hk=>h.bE k hk (fun h=>h)⟩
theorem Es {P:Program}(hlo:laidOutB P=true){H:Type}{enc:TypeId×Value->H}{W W':World}(hb:Below W.heap.size W W')(ts:List TypeId):∀{vs:List Value} {ds:List (DataW H)} {ps:List MemPlace},
  (ts.all fun t=>P.readableRec t&&decide (t<P.types.size))=true->DataW.TrodAll enc P W 0 (fun _=>true) true ts vs ds ps->(∀x∈ps,x.block<W.heap.size) ->
   DataW.TrodAll enc P W' 0 (fun b=>decide (b<W.heap.size)) true ts vs ds ps:=by
 induction ts with
 | nil=>
  intro vs ds ps _ h _
  obtain ⟨rfl,rfl,rfl⟩:=trodAll_nil h
  exact trodAll_mk0
 | cons t ts ih=>
  intro vs ds ps ht h hlt
  obtain ⟨v,vs',d,ds',p,q,rfl,rfl,rfl,h1,h2⟩:=trodAll_cons h
  simp only [List.all_cons,Bool.and_eq_true,decide_eq_true_eq] at ht
  exact trodAll_cons_mk (Below.trod hlo ht.1.1 ht.1.2 h1 hb fun x hx=>hlt x (List.mem_append_left _ hx)) (ih ht.2 h2 fun x hx=>hlt x (List.mem_append_right _ hx))
set_option maxRecDepth 100000 in
theorem IE {H:Type}{enc:TypeId×Value->H}{Ub:FuncId}{f:Func}{s:ChangeSpec}{W:World}{args:Array Value}{ds gs:List (DataW H)}{before:List MemPlace}{fresh handsOn:Bool}
  (hW:DataW.Whole enc Tryz.prog f.params.toList s.vars false W args.toList ds gs before)(hvars:s.vars=[])(hts:(f.params.toList.all fun t=>Tryz.prog.readableRec t&&decide (t<Tryz.prog.types.size))=true)
  (hres:f.resultTypes=#[4])(hs:s.fn H (ds++gs)={ results:=[.lit (.bool true)],args:=ds })
  (h:ab Tryz.prog Ub args (View.all W) fun r _=>r=.bool true):Calls Tryz.prog Ub args W fun e W'=>∃v,e=.returned v/\s.post enc Tryz.prog f false fresh handsOn false W args v W':=by
 refine (wG h).mono fun e W' ⟨r,he,hr,hx⟩=>?_
 subst he hr
 have hW':=hW
 obtain ⟨p,q,hA,hV,rfl,-,-⟩:=hW
 rw [hvars] at hV
 obtain ⟨rfl,rfl⟩:=trodVars_none hV
 have hlt:∀x∈p++[],x.block<W.heap.size:=fun x hx=>hW'.lt x hx
 refine ⟨_,rfl,ds,_,p++[],[],p++[],[],hW',?_,?_,?_,Bj hx _,fun h=>nomatch h⟩
 ·rw [hs,hres]
  exact trodAll_cons_mk (shut_bool Tryz.underlying4 _) trodAll_mk0
 ·rw [hs,List.append_nil]
  exact Es laidOut (yO hx) _ hts hA fun x hx=>hlt x (by rw [List.append_nil];exact hx)
 ·rw [hs,hvars]
  rfl
set_option maxRecDepth 100000 in
theorem BF {H:Type}{enc:TypeId×Value->H}{W:World}{p:OA}{n c:Nat}{d:DataW H}{ps:List MemPlace}
  (h:DataW.Trod enc Tryz.prog W 0 (fun _=>true) true 22 (.slice p n c) d ps):n<=c/\∀i,i<n->∃(a:Addr)(x:Int),ah p (i*1)=some a/\(View.all W).at a (.int .i64 x):=by
 obtain ⟨fuel,hf⟩:=h
 rcases open_ints Tryz.underlying22 Tryz.underlying3 (show Tryz.prog.cellsOf 3=1 by kernel_rfl) hf with ⟨hcs,-⟩|⟨a,len',cap',zs,hcs,_,hl,-,hz,-,hcell,-⟩
 ·simp [Value.cells] at hcs
  obtain ⟨rfl,rfl,rfl⟩:=hcs
  exact ⟨Nat.le_refl _,fun i hi=>absurd hi (by omega)⟩
 ·simp [Value.cells] at hcs
  obtain ⟨rfl,rfl,rfl⟩:=hcs
  simp only [if_true] at hz
  exact ⟨hl,fun i hi=>⟨a.add i,_,by rw [Nat.mul_one];rfl,fun h=>h,hcell i (by omega)⟩⟩
end Go.Proofs.YthpmdmkmfoaamaaGreatDoor
namespace Go.fV
def val:List Nat->Nat
 | []=>0
 | d::r=>d+4294967296*val r
def bV (ds:List Nat):Prop:=∀d∈ds,d<4294967296
def b_:List Nat->List Nat
 | []=>[]
 | d::r=>if b_ r=[]/\d=0 then [] else d::b_ r
def sB (ds:List Nat):Prop:=b_ ds=ds
def uo:Nat->Nat->List Nat
 | 0,_=>[]
 | f+1,n=>if n=0 then [] else n%4294967296::uo f (n / 4294967296)
def ai (n:Nat):List Nat:=uo n n
@[simp] theorem dU:val []=0:=rfl
@[simp] theorem bj (d:Nat)(r:List Nat):val (d::r)=d+4294967296*val r:=rfl
theorem bV.nil:bV []:=fun _ h=>nomatch h
theorem bV.cons {d:Nat}{r:List Nat}:bV (d::r)↔d<4294967296/\bV r:=by simp [bV]
theorem bV.append {a b:List Nat}:bV (a++b)↔bV a/\bV b:=by simp [bV,or_imp,forall_and]
theorem bV.take {a:List Nat}(h:bV a)(k:Nat):bV (a.take k):=fun d hd=>h d (List.mem_of_mem_take hd)
theorem bV.drop {a:List Nat}(h:bV a)(k:Nat):bV (a.drop k):=fun d hd=>h d (List.mem_of_mem_drop hd)
theorem bV.set {a:List Nat}(h:bV a)(k x:Nat)(hx:x<4294967296):bV (a.set k x):=fun d hd=>by
 rcases List.mem_or_eq_of_mem_set hd with h'|h'
 ·exact h d h'
 ·exact h'▸hx
theorem bV.get {a:List Nat}(h:bV a){i:Nat}(hi:i<a.length):a[i]<4294967296:=h _ (List.getElem_mem hi)
theorem bV.rep (n:Nat):bV (List.replicate n 0):=fun d hd=>by rw [List.eq_of_mem_replicate hd];omega
theorem cZ (a b:List Nat):val (a++b)=val a+4294967296^a.length*val b:=by
 induction a with
 | nil=>simp
 | cons d r ih=>simp only [List.cons_append,bj,ih,List.length_cons,Nat.pow_succ];grind
theorem fu {ds:List Nat}(h:bV ds):val ds<4294967296^ds.length:=by
 induction ds with
 | nil=>simp
 | cons d r ih=>
  have h':=bV.cons.1 h
  have:=ih h'.2
  have h1:=h'.1
  simp only [bj,List.length_cons,Nat.pow_succ]
  have h2:val r+1<=4294967296^r.length:=this
  have h3:=Nat.mul_le_mul_left 4294967296 h2
  omega
theorem tI (n:Nat):val (List.replicate n 0)=0:=by
 induction n with
 | zero=>rfl
 | succ n ih=>simp [List.replicate_succ,ih]
theorem aA (ds:List Nat)(i:Nat)(h:i<ds.length):val (ds.take (i+1))=val (ds.take i)+4294967296^i*ds[i]:=by
 rw [List.take_succ_eq_append_getElem h,cZ]
 simp [List.length_take,Nat.min_eq_left (Nat.le_of_lt h)]
theorem aq {ds:List Nat}{i:Nat}(h:ds.length<=i):val (ds.take i)=val ds:=by rw [List.take_of_length_le h]
theorem wV (ds:List Nat)(i x:Nat)(h:i<ds.length):(ds.set i x).take (i+1)=ds.take i++[x]:=by
 rw [List.take_succ_eq_append_getElem (by simpa using h),List.take_set,List.set_eq_of_length_le (by simp;omega)]
 simp
theorem aM (ds:List Nat)(i x:Nat)(h:i<ds.length):val ((ds.set i x).take (i+1))=val (ds.take i)+4294967296^i*x:=by
 rw [wV ds i x h,cZ]
 simp [List.length_take,Nat.min_eq_left (Nat.le_of_lt h)]
theorem gT (r:List Nat):b_ (r++[0])=b_ r:=by
 induction r with
 | nil=>simp [b_]
 | cons d r ih=>simp only [List.cons_append,b_,ih]
theorem oR (r:List Nat)(d:Nat)(h:d≠0):b_ (r++[d])=r++[d]:=by
 induction r with
 | nil=>simp [b_,h]
 | cons x r ih=>simp [List.cons_append,b_,ih]
theorem Fg (ds:List Nat):val (b_ ds)=val ds:=by
 induction ds with
 | nil=>rfl
 | cons d r ih=>
  simp only [b_]
  split
  ·rename_i h
   rw [bj,←ih,h.1,h.2];rfl
  ·simp [ih]
theorem kC (ds:List Nat):(b_ ds).length<=ds.length:=by
 induction ds with
 | nil=>simp [b_]
 | cons d r ih=>simp only [b_];split<;>simp<;>omega
theorem Fe (ds:List Nat):b_ ds=ds.take (b_ ds).length:=by
 induction ds with
 | nil=>rfl
 | cons d r ih=>
  simp only [b_]
  split
  ·rfl
  ·simp only [List.length_cons,List.take_succ_cons];rw [←ih]
theorem bV.trim {ds:List Nat}(h:bV ds):bV (b_ ds):=by rw [Fe];exact h.take _
theorem BR (ds:List Nat):sB (b_ ds):=by
 unfold sB
 induction ds with
 | nil=>rfl
 | cons d r ih=>
  rw [b_]
  split
  ·rfl
  ·rename_i h;rw [b_,ih,if_neg h]
theorem sB.tail {d:Nat}{r:List Nat}(h:sB (d::r)):sB r:=by
 unfold sB at h ⊢
 simp only [b_] at h
 split at h
 ·cases h
 ·injection h
theorem sB.zero {ds:List Nat}(h:sB ds)(hv:val ds=0):ds=[]:=by
 induction ds with
 | nil=>rfl
 | cons d r ih=>
  have hr:=ih h.tail (by simp at hv;omega)
  subst hr
  simp at hv;subst hv
  simp [sB,b_] at h
theorem pJ:∀(f n:Nat),n<=f->val (uo f n)=n/\bV (uo f n)/\sB (uo f n)
 | 0,n,h=>⟨by simp [uo];omega,bV.nil,rfl⟩
 | f+1,n,h=>by
  simp only [uo]
  split
  ·subst_vars;exact ⟨rfl,bV.nil,rfl⟩
  ·obtain ⟨h1,h2,h3⟩:=pJ f (n / 4294967296) (by omega)
   refine ⟨by rw [bj,h1];omega,bV.cons.2 ⟨by omega,h2⟩,?_⟩
   unfold sB at h3 ⊢
   rw [b_,h3,if_neg]
   rintro ⟨e1,e2⟩
   rw [e1] at h1
   simp at h1
   omega
theorem ag (n:Nat):val (ai n)=n:=(pJ n n (Nat.le_refl _)).1
theorem aE (n:Nat):bV (ai n):=(pJ n n (Nat.le_refl _)).2.1
theorem iU (n:Nat):sB (ai n):=(pJ n n (Nat.le_refl _)).2.2
theorem sB.ext:∀{a b:List Nat},bV a->bV b->sB a->sB b->val a=val b->a=b
 | [],b,_,_,_,hb,h=>(hb.zero (by rw [←h];rfl)).symm
 | d::r,[],_,_,ha,_,h=>by have:=ha.zero h;cases this
 | d::r,e::s,ha,hb,na,nb,h=>by
  have h1:=(bV.cons.1 ha).1
  have h2:=(bV.cons.1 hb).1
  simp only [bj] at h
  have:val r=val s:=by omega
  have hrs:=sB.ext (bV.cons.1 ha).2 (bV.cons.1 hb).2 na.tail nb.tail this
  have:d=e:=by omega
  subst this;rw [hrs]
theorem ur {ds:List Nat}(h:bV ds)(hn:sB ds):ai (val ds)=ds:=sB.ext (aE _) h (iU _) hn (ag _)
theorem aR {ds:List Nat}(h:bV ds):b_ ds=ai (val ds):=by
 rw [←Fg,ur h.trim (BR _)]
theorem uq {a b:Nat}(h:ai a=ai b):a=b:=by rw [←ag a,h,ag]
@[simp] theorem xW:ai 0=[]:=rfl
theorem bC {n:Nat}:ai n=[]↔n=0:=⟨fun h=>uq (by rw [h];rfl),fun h=>h▸rfl⟩
theorem sB.last {ds:List Nat}(h:sB ds)(hl:0<ds.length):ds[ds.length-1]≠0:=by
 intro e
 have hs:ds=ds.take (ds.length-1)++[ds[ds.length-1]]:=by
  rw [←List.take_succ_eq_append_getElem (by omega),Nat.sub_add_cancel hl,List.take_length]
 rw [e] at hs
 have h2:b_ ds=ds:=h
 rw [hs,gT] at h2
 have:=kC (ds.take (ds.length-1))
 rw [h2] at this
 simp at this
 omega
theorem Bs {ds:List Nat}(h:∀hl:0<ds.length,ds[ds.length-1]≠0):sB ds:=by
 rcases Nat.eq_zero_or_pos ds.length with e|e
 ·rw [List.length_eq_zero_iff.1 e];rfl
 ·have hs:ds=ds.take (ds.length-1)++[ds[ds.length-1]]:=by
   rw [←List.take_succ_eq_append_getElem (by omega),Nat.sub_add_cancel e,List.take_length]
  have:=oR (ds.take (ds.length-1)) _ (h e)
  rw [←hs] at this
  exact this
theorem Hw {ds:List Nat}(h:sB ds)(hl:0<ds.length):4294967296^(ds.length-1)<=val ds:=by
 have hs:ds=ds.take (ds.length-1)++[ds[ds.length-1]]:=by
  rw [←List.take_succ_eq_append_getElem (by omega),Nat.sub_add_cancel hl,List.take_length]
 have h0:=h.last hl
 rw [hs,cZ]
 simp only [bj,dU,List.length_take]
 rw [Nat.min_eq_left (by omega)]
 simp only [List.length_append,List.length_take,List.length_singleton]
 rw [Nat.min_eq_left (by omega),Nat.sub_add_cancel hl]
 have:4294967296^(ds.length-1)*1<=4294967296^(ds.length-1)*(ds[ds.length-1]+4294967296*0):=Nat.mul_le_mul_left _ (by omega)
 omega
theorem aG {n k:Nat}:(ai n).length<=k↔n<4294967296^k:=by
 constructor
 ·intro h
  have:=fu (aE n)
  rw [ag] at this
  exact Nat.lt_of_lt_of_le this (Nat.pow_le_pow_right (by omega) h)
 ·intro h
  rcases Nat.lt_or_ge k (ai n).length with h'|h'
  ·have:=Hw (iU n) (by omega)
   rw [ag] at this
   have h2:4294967296^k<=4294967296^((ai n).length-1):=Nat.pow_le_pow_right (by omega) (by omega)
   omega
  ·exact h'
theorem rR {n k:Nat}:k<(ai n).length↔4294967296^k<=n:=by
 have:=@aG n k
 omega
theorem fS (ds:List Nat)(i:Nat)(h:i<ds.length):val ds=val (ds.take i)+4294967296^i*(ds[i]+4294967296*val (ds.drop (i+1))):=by
 have h2:val ds=val (ds.take i++ds.drop i):=by rw [List.take_append_drop]
 rw [h2,cZ,List.drop_eq_getElem_cons h]
 simp only [List.length_take,Nat.min_eq_left (Nat.le_of_lt h),bj]
theorem jz {a b:List Nat}{i:Nat}(ha:bV a)(hi:i<a.length)(hj:i<b.length)(hd:a.drop (i+1)=b.drop (i+1))(hl:a[i]<b[i]):val a<val b:=by
 rw [fS a i hi,fS b i hj,hd]
 have h1:=fu (ha.take i)
 simp only [List.length_take,Nat.min_eq_left (Nat.le_of_lt hi)] at h1
 have h2:4294967296^i*(a[i]+4294967296*val (b.drop (i+1))+1)<=4294967296^i*(b[i]+4294967296*val (b.drop (i+1))):=Nat.mul_le_mul_left _ (by omega)
 rw [Nat.mul_add,Nat.mul_one] at h2
 omega
theorem kt {a b:Nat}(h:(ai a).length<(ai b).length):a<b:=by
 have h1:=fu (aE a)
 have h2:=Hw (iU b) (by omega)
 rw [ag] at h1 h2
 have h3:4294967296^(ai a).length<=4294967296^((ai b).length-1):=Nat.pow_le_pow_right (by omega) (by omega)
 omega
def kk (a b:Nat):Int:=if a<b then -1 else if b<a then 1 else 0
theorem aI {a b:Nat}(h:a<=b):(ai a).length<=(ai b).length:=by
 rcases Nat.lt_or_ge (ai b).length (ai a).length with h'|h'
 ·have:=kt h';omega
 ·exact h'
theorem bw {ds:List Nat}(h:bV ds):(ai (val ds)).length<=ds.length:=by rw [←aR h];exact kC ds
theorem Ig {n:Nat}(h:n<4294967296)(h0:n≠0):ai n=[n]:=by
 have:sB [n]:=by simp [sB,b_,h0]
 have:=ur (by simp [bV];exact h) this
 simpa using this
end Go.fV
namespace Go.Proofs.Tryz
open Go.fV
section
variable {α:Type}
structure Ord (c:α->α->Int):Prop where
 HU:∀a b,c a b<0->¬c b a<0
 tr:∀a b d,¬c a b<0->¬c b d<0->¬c a d<0
variable {c:α->α->Int}
theorem Ord.le (h:Ord c){a b:α}(l:c a b<0):¬c b a<0:=h.HU a b l
theorem Ord.refl (h:Ord c)(a:α):¬c a a<0:=fun l=>h.HU a a l l
def jf (d:α)(l:List α)(i j:Nat):List α:=(l.set i (l.getD j d)).set j (l.getD i d)
variable {d:α}
theorem nD {l:List α}{i j:Nat}:(jf d l i j).length=l.length:=by simp [jf]
theorem pL {l:List α}{i k:Nat}{x:α}(hi:i<l.length):(l.set i x).getD k d=if k=i then x else l.getD k d:=by
 simp only [List.getD_eq_getElem?_getD,List.getElem?_set]
 by_cases h:k=i
 ·subst h;simp [hi]
 ·have:¬i=k:=fun e=>h e.symm
  simp [h,this]
theorem lF {l:List α}{i j k:Nat}(hi:i<l.length)(hj:j<l.length):(jf d l i j).getD k d=if k=j then l.getD i d else if k=i then l.getD j d else l.getD k d:=by
 unfold jf
 rw [pL (by simpa using hj),pL hi]
theorem Ht {l:List α}{i j:Nat}(hi:i<l.length)(hj:j<l.length):(jf d l i j).Perm l:=by
 have h:=Array.swap_perm (xs:=l.toArray) (i:=i) (j:=j) (by simpa using hi) (by simpa using hj)
 have e:(l.toArray.swap i j (by simpa using hi) (by simpa using hj)).toList=jf d l i j:=by
  simp [Array.swap,jf,List.getD_eq_getElem?_getD,hi,hj]
 have:=h.toList
 rw [e] at this
 simpa using this
structure gV (d:α) (l m:List α) (a b:Nat):Prop where
 len:m.length=l.length
 out:∀k,¬(a<=k/\k<b)->m.getD k d=l.getD k d
 mem:∀k,a<=k->k<b->∃k',a<=k'/\k'<b/\m.getD k d=l.getD k' d
 perm:m.Perm l
theorem gV.refl (l:List α)(a b:Nat):gV d l l a b:=⟨rfl,fun _ _=>rfl,fun k h h'=>⟨k,h,h',rfl⟩,.refl _⟩
theorem gV.trans {l m n:List α}{a b:Nat}(h:gV d l m a b)(g:gV d m n a b):gV d l n a b:=
 ⟨g.len.trans h.len,fun k hk=>(g.out k hk).trans (h.out k hk),fun k h1 h2=>by
  obtain ⟨k',h3,h4,e⟩:=g.mem k h1 h2
  obtain ⟨k'',h5,h6,e'⟩:=h.mem k' h3 h4
  exact ⟨k'',h5,h6,e.trans e'⟩,g.perm.trans h.perm⟩
theorem gV.wide {l m:List α}{a b a' b':Nat}(h:gV d l m a b)(ha:a'<=a)(hb:b<=b'):gV d l m a' b':=
 ⟨h.len,fun k hk=>h.out k (by omega),fun k h1 h2=>by
  by_cases hk:a<=k/\k<b
  ·obtain ⟨k',h3,h4,e⟩:=h.mem k hk.1 hk.2
   exact ⟨k',by omega,by omega,e⟩
  ·exact ⟨k,h1,h2,h.out k hk⟩,h.perm⟩
theorem gV.jf {l:List α}{a b i j:Nat}(hi:a<=i)(hi':i<b)(hj:a<=j)(hj':j<b)(hb:b<=l.length):gV d l (jf d l i j) a b:=by
 refine ⟨nD,fun k hk=>?_,fun k h1 h2=>?_,Ht (by omega) (by omega)⟩
 ·rw [lF (by omega) (by omega),if_neg (by omega),if_neg (by omega)]
 ·rw [lF (by omega) (by omega)]
  split
  ·exact ⟨i,hi,hi',rfl⟩
  ·split
   ·exact ⟨j,hj,hj',rfl⟩
   ·exact ⟨k,h1,h2,rfl⟩
def pk (c:α->α->Int)(d:α)(l:List α)(a b:Nat):Prop:=∀p q,a<=p->p<q->q<b->¬c (l.getD q d) (l.getD p d)<0
theorem pk.short {l:List α}{a b:Nat}(h:b<=a+1):pk c d l a b:=fun p q h1 h2 h3=>by omega
theorem pk.step (ho:Ord c){l:List α}{a b:Nat}(h:pk c d l a b)(h0:a<b)(hb:¬c (l.getD b d) (l.getD (b-1) d)<0):pk c d l a (b+1):=by
 intro p q h1 h2 h3
 by_cases e:q=b
 ·subst e
  by_cases e':p=q-1
  ·subst e';exact hb
  ·exact ho.tr _ _ _ hb (h p (q-1) h1 (by omega) (by omega))
 ·exact h p q h1 h2 (by omega)
def HM (c:α->α->Int)(d:α)(l:List α)(a i j:Nat):Prop:=∀p q,a<=p->p<q->q<=i->q≠j->¬c (l.getD q d) (l.getD p d)<0
theorem HM.start {l:List α}{a i:Nat}(h:pk c d l a i):HM c d l a i i:=fun p q h1 h2 h3 h4=>h p q h1 h2 (by omega)
theorem HM.done (ho:Ord c){l:List α}{a i j:Nat}(h:HM c d l a i j)(hji:j<=i)(hs:j<=a\/¬c (l.getD j d) (l.getD (j-1) d)<0):pk c d l a (i+1):=by
 intro p q h1 h2 h3
 by_cases e:q=j
 ·subst e
  rcases hs with hs|hs
  ·omega
  ·by_cases e':p=q-1
   ·subst e';exact hs
   ·exact ho.tr _ _ _ hs (h p (q-1) h1 (by omega) (by omega) (by omega))
 ·exact h p q h1 h2 (by omega) e
theorem HM.move (ho:Ord c){l:List α}{a i j:Nat}(h:HM c d l a i j)(hj:a<j)(hji:j<=i)(hi:i<l.length)(hl:c (l.getD j d) (l.getD (j-1) d)<0):HM c d (jf d l j (j-1)) a i (j-1):=by
 intro p q h1 h2 h3 h4
 have ha:=fun k=>lF (d:=d) (l:=l) (i:=j) (j:=j-1) (k:=k) (by omega) (by omega)
 rw [ha,ha]
 by_cases eq:q=j
 ·subst eq
  rw [if_neg (by omega),if_pos rfl]
  by_cases ep:p=q-1
  ·rw [if_pos ep];exact ho.HU _ _ hl
  ·rw [if_neg ep,if_neg (by omega)];exact h p (q-1) h1 (by omega) (by omega) (by omega)
 ·rw [if_neg h4,if_neg eq]
  by_cases ep:p=j-1
  ·rw [if_pos ep];exact h j q (by omega) (by omega) h3 eq
  ·rw [if_neg ep]
   by_cases T8:p=j
   ·rw [if_pos T8];exact h (j-1) q (by omega) (by omega) h3 eq
   ·rw [if_neg T8];exact h p q h1 h2 h3 eq
def Hp (c:α->α->Int)(d:α)(l:List α)(f lo hi:Nat)(r:Option Nat):Prop:=
 (∀i k,lo<=i->(k=2*i+1\/k=2*i+2)->k<hi->r≠some i->¬c (l.getD (f+i) d) (l.getD (f+k) d)<0) /\
 (∀i j k,r=some j->lo<=i->(j=2*i+1\/j=2*i+2)->(k=2*j+1\/k=2*j+2)->k<hi->¬c (l.getD (f+i) d) (l.getD (f+k) d)<0)
theorem Hp.top (ho:Ord c){l:List α}{f hi:Nat}(h:Hp c d l f 0 hi none):∀k,k<hi->¬c (l.getD f d) (l.getD (f+k) d)<0:=by
 intro k
 induction k using Nat.strongRecOn with
 | ind k ih=>
  intro hk
  by_cases h0:k=0
  ·subst h0;exact ho.refl _
  ·exact ho.tr _ _ _ (ih ((k-1) / 2) (by omega) (by omega)) (h.1 ((k-1) / 2) k (by omega) (by omega) hk (by simp))
theorem Hp.leaf {l:List α}{f lo hi r:Nat}(h:Hp c d l f lo hi (some r))(hr:hi<=2*r+1):Hp c d l f lo hi none:=
 ⟨fun i k h1 h2 h3 _=>by
  by_cases e:r=i
  ·omega
  ·exact h.1 i k h1 h2 h3 (by simpa using e),fun i j k e=>by cases e⟩
theorem Hp.stop (ho:Ord c){l:List α}{f lo hi r k:Nat}(h:Hp c d l f lo hi (some r))(hk:k=2*r+1\/k=2*r+2)(hm:∀k',(k'=2*r+1\/k'=2*r+2)->k'<hi->¬c (l.getD (f+k) d) (l.getD (f+k') d)<0)
  (hs:¬c (l.getD (f+r) d) (l.getD (f+k) d)<0):Hp c d l f lo hi none:=
 ⟨fun i k' h1 h2 h3 _=>by
  by_cases e:r=i
  ·subst e;exact ho.tr _ _ _ hs (hm k' h2 h3)
  ·exact h.1 i k' h1 h2 h3 (by simpa using e),fun i j k e=>by cases e⟩
theorem Hp.down (ho:Ord c){l:List α}{f lo hi r k:Nat}(h:Hp c d l f lo hi (some r))(hlo:lo<=r)(hl:f+hi<=l.length)(hk:k=2*r+1\/k=2*r+2)(hkh:k<hi)(hm:∀k',(k'=2*r+1\/k'=2*r+2)->k'<hi->¬c (l.getD (f+k) d) (l.getD (f+k') d)<0)
  (hs:c (l.getD (f+r) d) (l.getD (f+k) d)<0):Hp c d (jf d l (f+r) (f+k)) f lo hi (some k):=by
 have ha:=fun x=>lF (d:=d) (l:=l) (i:=f+r) (j:=f+k) (k:=x) (by omega) (by omega)
 refine ⟨fun i k' h1 h2 h3 h4=>?_,fun i j k' e h1 h2 h3 h4=>?_⟩
 ·have h4:¬i=k:=fun e=>h4 (by rw [e])
  rw [ha,ha,if_neg (show ¬f+i=f+k by omega)]
  by_cases er:i=r
  ·subst er
   rw [if_pos rfl]
   by_cases ek:k'=k
   ·rw [if_pos (by omega)];exact ho.HU _ _ hs
   ·rw [if_neg (by omega),if_neg (by omega)];exact hm k' h2 h3
  ·rw [if_neg (by omega)]
   by_cases ek:k'=r
   ·subst ek
    rw [if_neg (by omega),if_pos rfl]
    exact h.2 i k' k rfl h1 h2 hk hkh
   ·rw [if_neg (by omega),if_neg (by omega)]
    exact h.1 i k' h1 h2 h3 (by simp;omega)
 ·cases e
  rw [ha,ha]
  have:i=r:=by omega
  subst this
  rw [if_neg (by omega),if_pos rfl,if_neg (by omega),if_neg (by omega)]
  exact h.1 k k' (by omega) h3 h4 (by simp;omega)
theorem Hp.more {l:List α}{f lo hi:Nat}(h:Hp c d l f (lo+1) hi none):Hp c d l f lo hi (some lo):=
 ⟨fun i k h1 h2 h3 h4=>h.1 i k (by have:¬lo=i:=fun e=>h4 (by rw [e]);omega) h2 h3 (by simp),fun i j k e h1 h2 h3 h4=>by cases e;omega⟩
theorem Hp.pop {l:List α}{f hi:Nat}(h:Hp c d l f 0 (hi+1) none)(hl:f+hi<l.length):Hp c d (jf d l f (f+hi)) f 0 hi (some 0):=by
 have ha:=fun x=>lF (d:=d) (l:=l) (i:=f) (j:=f+hi) (k:=x) (by omega) (by omega)
 refine ⟨fun i k h1 h2 h3 h4=>?_,fun i j k e h1 h2 h3 h4=>by cases e;omega⟩
 have h4:¬i=0:=fun e=>h4 (by rw [e])
 rw [ha,ha,if_neg (by omega),if_neg (by omega),if_neg (by omega),if_neg (by omega)]
 exact h.1 i k h1 h2 (by omega) (by simp)
def Sep (c:α->α->Int)(d:α)(l:List α)(a m b:Nat):Prop:=∀p q,a<=p->p<m->m<=q->q<b->¬c (l.getD q d) (l.getD p d)<0
theorem gV.sep {l m:List α}{a b x y z:Nat}(h:gV d l m a b)(hs:Sep c d l x y z)(hc:(x<=a/\b<=y)\/(y<=a/\b<=z)\/b<=x\/z<=a):Sep c d m x y z:=by
 intro p q h1 h2 h3 h4
 have key:∀k,∃k',m.getD k d=l.getD k' d/\(k=k'\/a<=k/\k<b/\a<=k'/\k'<b):=fun k=>by
  by_cases hk:a<=k/\k<b
  ·obtain ⟨k',e1,e2,e⟩:=h.mem k hk.1 hk.2
   exact ⟨k',e,.inr ⟨hk.1,hk.2,e1,e2⟩⟩
  ·exact ⟨k,h.out k hk,.inl rfl⟩
 obtain ⟨p',e1,e2⟩:=key p
 obtain ⟨q',f1,f2⟩:=key q
 rw [e1,f1]
 exact hs p' q' (by omega) (by omega) (by omega) (by omega)
theorem gV.Ao {l m:List α}{a b x y:Nat}(h:gV d l m a b)(hs:pk c d l x y)(hc:y<=a\/b<=x):pk c d m x y:=by
 intro p q h1 h2 h3
 rw [h.out p (by omega),h.out q (by omega)]
 exact hs p q h1 h2 h3
theorem pk.join {l:List α}{a m b:Nat}(h1:pk c d l a m)(h2:pk c d l m b)(h3:Sep c d l a m b):pk c d l a b:=by
 intro p q g1 g2 g3
 by_cases hq:q<m
 ·exact h1 p q g1 g2 hq
 ·by_cases hp:m<=p
  ·exact h2 p q hp g2 g3
  ·exact h3 p q g1 (by omega) (by omega) g3
end
end Go.Proofs.Tryz
namespace Go.Proofs.Tryz.ay
abbrev V2:=Rat×Rat
def cr (u v:V2):Rat:=u.1*v.2-u.2*v.1
def dt (u v:V2):Rat:=u.1*v.1+u.2*v.2
def Ek (u:V2):V2:=(-u.2,u.1)
def up (u:V2):Prop:=u.2>0\/u.2=0/\u.1>0
def dn (u:V2):Prop:=u.2<0\/u.2=0/\u.1<0
def nz (u:V2):Prop:=u.1≠0\/u.2≠0
def oh (u v:V2):Prop:=(up u/\dn v)\/((up u/\up v\/dn u/\dn v)/\cr u v>0)
def wN (a:Rat)(u:V2)(b:Rat)(w:V2):V2:=(a*u.1+b*w.1,a*u.2+b*w.2)
def PL (s r:V2):Prop:=∃c:Rat,c>0/\s.1=-(c*r.1)/\s.2=-(c*r.2)
theorem jH {u:V2}(h:nz u):up u\/dn u:=by unfold nz at h;unfold up dn;grind
theorem ev {u:V2}(h:up u)(h':dn u):False:=by unfold up at h;unfold dn at h';grind
theorem cj (u v:V2):cr v u=-cr u v:=by unfold cr;grind
theorem Gh (u w r:V2):cr u r*w.1+cr r w*u.1=cr u w*r.1:=by unfold cr;grind
theorem zi (u w r:V2):cr u r*w.2+cr r w*u.2=cr u w*r.2:=by unfold cr;grind
theorem qX (r:V2)(a:Rat)(u:V2)(b:Rat)(w:V2):cr r (wN a u b w)=a*cr r u+b*cr r w:=by unfold cr wN;grind
theorem CO (r u:V2):cr r (Ek u)=dt r u:=by unfold cr Ek dt;grind
theorem jP {s r:V2}(h:PL s r)(z:V2):∃c:Rat,c>0/\cr s z=-(c*cr r z)/\cr z s=-(c*cr z r):=by
 obtain ⟨c,h0,h1,h2⟩:=h
 exact ⟨c,h0,by unfold cr;rw [h1,h2];grind,by unfold cr;rw [h1,h2];grind⟩
theorem mp {a b:Rat}(ha:a>0)(hb:b>0):a*b>0:=Rat.mul_pos ha hb
theorem mn {a b:Rat}(ha:a≥0)(hb:b≥0):a*b≥0:=Rat.mul_nonneg ha hb
theorem b1 {u w r:V2}(hu:up u)(hw:dn w)(hr:up r)(a:cr u r>0)(b:cr r w<=0)(c:cr u w≥0):False:=by
 have e:=zi u w r
 unfold up at hu hr;unfold dn at hw
 have h1:cr u r*(-w.2)≥0:=mn (by grind) (by grind)
 have h2:(-(cr r w))*u.2≥0:=mn (by grind) (by grind)
 have h3:cr u w*r.2≥0:=mn c (by grind)
 have z1:cr u r*w.2=0:=by grind
 have w2:w.2=0:=by rcases Rat.mul_eq_zero.1 z1 with h|h<;>grind
 have w1:w.1<0:=by grind
 have bb:cr r w=-(r.2*w.1):=by unfold cr;grind
 have r2:r.2=0:=by
  by_cases h:r.2>0
  ·have:=mp h (show -w.1>0 by grind)
   grind
  ·grind
 have r1:r.1>0:=by grind
 have aa:cr u r=-(u.2*r.1):=by unfold cr;grind
 have:=mn (show u.2≥0 by grind) (show r.1≥0 by grind)
 grind
theorem b2 {u w r:V2}(hu:up u)(hw:dn w)(hr:dn r)(a:cr u r<=0)(b:cr r w>0)(c:cr u w≥0):False:=by
 have e:=zi u w r
 unfold up at hu;unfold dn at hw hr
 have h1:(-(cr u r))*(-w.2)≥0:=mn (by grind) (by grind)
 have h2:cr r w*u.2≥0:=mn (by grind) (by grind)
 have h3:cr u w*(-r.2)≥0:=mn c (by grind)
 have z1:cr r w*u.2=0:=by grind
 have u2:u.2=0:=by rcases Rat.mul_eq_zero.1 z1 with h|h<;>grind
 have u1:u.1>0:=by grind
 have cc:cr u w=u.1*w.2:=by unfold cr;grind
 have w2:w.2=0:=by
  by_cases h:w.2<0
  ·have:=mp u1 (show -w.2>0 by grind)
   grind
  ·grind
 have w1:w.1<0:=by grind
 have bb:cr r w=-(r.2*w.1):=by unfold cr;grind
 have:=mn (show -r.2≥0 by grind) (show -w.1≥0 by grind)
 grind
theorem b3 {u w r:V2}(hu:dn u)(hw:up w)(hr:dn r)(a:cr u r>0)(b:cr r w<=0)(c:cr u w≥0):False:=by
 have e:=zi u w r
 unfold dn at hu hr;unfold up at hw
 have h1:cr u r*w.2≥0:=mn (by grind) (by grind)
 have h2:(-(cr r w))*(-u.2)≥0:=mn (by grind) (by grind)
 have h3:cr u w*(-r.2)≥0:=mn c (by grind)
 have z1:cr u r*w.2=0:=by grind
 have w2:w.2=0:=by rcases Rat.mul_eq_zero.1 z1 with h|h<;>grind
 have w1:w.1>0:=by grind
 have bb:cr r w=-(r.2*w.1):=by unfold cr;grind
 have r2:r.2=0:=by
  by_cases h:r.2<0
  ·have:=mp w1 (show -r.2>0 by grind)
   grind
  ·grind
 have r1:r.1<0:=by grind
 have aa:cr u r=-(u.2*r.1):=by unfold cr;grind
 have:=mn (show -u.2≥0 by grind) (show -r.1≥0 by grind)
 grind
theorem b4 {u w r:V2}(hu:dn u)(hw:up w)(hr:up r)(a:cr u r<=0)(b:cr r w>0)(c:cr u w≥0):False:=by
 have e:=zi u w r
 unfold dn at hu;unfold up at hw hr
 have h1:(-(cr u r))*w.2≥0:=mn (by grind) (by grind)
 have h2:cr r w*(-u.2)≥0:=mn (by grind) (by grind)
 have h3:cr u w*r.2≥0:=mn c (by grind)
 have z1:cr r w*u.2=0:=by grind
 have u2:u.2=0:=by rcases Rat.mul_eq_zero.1 z1 with h|h<;>grind
 have u1:u.1<0:=by grind
 have cc:cr u w=u.1*w.2:=by unfold cr;grind
 have w2:w.2=0:=by
  by_cases h:w.2>0
  ·have:=mp h (show -u.1>0 by grind)
   grind
  ·grind
 have w1:w.1>0:=by grind
 have bb:cr r w=-(r.2*w.1):=by unfold cr;grind
 have:=mn (show r.2≥0 by grind) (show w.1≥0 by grind)
 grind
theorem II {u s r v:V2}(hr:cr r v>0)(hu:cr u v>0)(hs:cr s v>0)(h1:cr r u≥0)(h2:cr u s≥0):cr r s≥0:=by
 have e:cr r s*cr u v=cr r u*cr s v+cr u s*cr r v:=by unfold cr;grind
 have a1:=mn h1 (show cr s v≥0 by grind)
 have a2:=mn h2 (show cr r v≥0 by grind)
 by_cases h:cr r s≥0
 ·exact h
 ·have:=mp (show -(cr r s)>0 by grind) hu
  grind
theorem K8:∀(D:List V2)(v:V2),(∃r∈D,cr r v>0)->∃u∈D,cr u v>0/\∀r∈D,cr r v>0->cr r u≥0
 | [],v,⟨r,h,_⟩=>by cases h
 | d::D,v,h=>by
  by_cases hD:∃r∈D,cr r v>0
  ·obtain ⟨u,hu,h1,h2⟩:=K8 D v hD
   by_cases hd:cr d v>0
   ·by_cases hc:cr d u≥0
    ·refine ⟨u,List.mem_cons_of_mem _ hu,h1,fun r hr hp=>?_⟩
     rcases List.mem_cons.1 hr with rfl|hr
     ·exact hc
     ·exact h2 r hr hp
    ·refine ⟨d,List.mem_cons_self ..,hd,fun r hr hp=>?_⟩
     rcases List.mem_cons.1 hr with rfl|hr
     ·unfold cr;grind
     ·have:=cj d u
      exact II hp h1 hd (h2 r hr hp) (by grind)
   ·refine ⟨u,List.mem_cons_of_mem _ hu,h1,fun r hr hp=>?_⟩
    rcases List.mem_cons.1 hr with rfl|hr
    ·exact absurd hp hd
    ·exact h2 r hr hp
  ·obtain ⟨r,hr,hp⟩:=h
   rcases List.mem_cons.1 hr with rfl|hr
   ·refine ⟨r,List.mem_cons_self ..,hp,fun s hs hps=>?_⟩
    rcases List.mem_cons.1 hs with rfl|hs
    ·unfold cr;grind
    ·exact absurd ⟨s,hs,hps⟩ hD
   ·exact absurd ⟨r,hr,hp⟩ hD
structure Am (D:List V2):Prop where
 nz:∀r∈D,nz r
 cl:∀r∈D,∃s∈D,PL s r
 Ao:D.Pairwise oh
def ss (a b:Rat):Prop:=(b>0->a>0)/\(b<0->a<0)
theorem dD {u v:V2}(hu:up u)(hv:up v):oh u v->cr u v>0:=by
 rintro (⟨_,h⟩|⟨_,h⟩)
 ·exact (ev hv h).elim
 ·exact h
theorem dp {u v:V2}(hu:dn u)(hv:dn v):oh u v->cr u v>0:=by
 rintro (⟨h,_⟩|⟨_,h⟩)
 ·exact (ev h hu).elim
 ·exact h
theorem bS {u v:V2}(hu:dn u)(hv:up v):¬oh u v:=by
 rintro (⟨h,_⟩|⟨⟨h,_⟩|⟨_,h⟩,_⟩)
 ·exact ev h hu
 ·exact ev h hu
 ·exact ev hv h
theorem Wh {u w r v:V2}(nu:nz u)(nw:nz w)(nr:nz r)
  (o:oh u r/\oh r w\/oh w u/\oh u r\/oh r w/\oh w u)
  (h0:cr r v≠0)(hr:cr r v>0->cr u r<=0)(hr':cr r v<0->cr r w<=0)(c:cr u w≥0):False:=by
 have sw:=cj u w
 have two:cr u r>0->cr r w>0->False:=fun a b=>by
  by_cases h:cr r v>0
  ·have:=hr h;grind
  ·have:=hr' (by grind);grind
 have f1:cr u r>0->cr r w<=0:=fun a=>by
  by_cases h:cr r v>0
  ·have:=hr h;grind
  ·exact hr' (by grind)
 have f2:cr r w>0->cr u r<=0:=fun a=>by
  by_cases h:cr r v>0
  ·exact hr h
  ·have:=hr' (by grind);grind
 rcases jH nu with hu|hu<;>rcases jH nw with hw|hw<;>rcases jH nr with hn|hn
 ·rcases o with ⟨a,b⟩|⟨a,b⟩|⟨a,b⟩
  ·exact two (dD hu hn a) (dD hn hw b)
  ·have:=dD hw hu a;grind
  ·have:=dD hw hu b;grind
 ·rcases o with ⟨a,b⟩|⟨a,b⟩|⟨a,b⟩
  ·exact bS hn hw b
  ·have:=dD hw hu a;grind
  ·exact bS hn hw a
 ·rcases o with ⟨a,b⟩|⟨a,b⟩|⟨a,b⟩
  ·have:=dD hu hn a
   exact b1 hu hw hn this (f1 this) c
  ·exact bS hw hu a
  ·exact bS hw hu b
 ·rcases o with ⟨a,b⟩|⟨a,b⟩|⟨a,b⟩
  ·have:=dp hn hw b
   exact b2 hu hw hn (f2 this) this c
  ·exact bS hw hu a
  ·exact bS hw hu b
 ·rcases o with ⟨a,b⟩|⟨a,b⟩|⟨a,b⟩
  ·exact bS hu hn a
  ·exact bS hu hn b
  ·have:=dD hn hw a
   exact b4 hu hw hn (f2 this) this c
 ·rcases o with ⟨a,b⟩|⟨a,b⟩|⟨a,b⟩
  ·exact bS hn hw b
  ·have:=dp hu hn b
   exact b3 hu hw hn this (f1 this) c
  ·exact bS hn hw a
 ·rcases o with ⟨a,b⟩|⟨a,b⟩|⟨a,b⟩
  ·exact bS hu hn a
  ·exact bS hu hn b
  ·have:=dp hw hu b;grind
 ·rcases o with ⟨a,b⟩|⟨a,b⟩|⟨a,b⟩
  ·exact two (dp hu hn a) (dp hn hw b)
  ·have:=dp hw hu a;grind
  ·have:=dp hw hu b;grind
def K7 (u:V2):V2:=(u.1,-u.2)
theorem zc (u v:V2):cr (K7 u) (K7 v)=-cr u v:=by unfold cr K7;grind
theorem Oh (D:List V2)(v:V2)(h:∃r∈D,cr r v<0):∃w∈D,cr w v<0/\∀r∈D,cr r v<0->cr r w<=0:=by
 obtain ⟨r,hr,hn⟩:=h
 obtain ⟨w,hw,h1,h2⟩:=K8 (D.map K7) (K7 v) ⟨K7 r,List.mem_map_of_mem hr,by rw [zc];grind⟩
 obtain ⟨w0,h0,rfl⟩:=List.mem_map.1 hw
 rw [zc] at h1
 refine ⟨w0,h0,by grind,fun r hr hn=>?_⟩
 have:=h2 (K7 r) (List.mem_map_of_mem hr) (by rw [zc];grind)
 rw [zc] at this
 grind
section
variable {D:List V2} (h:Am D) {v:V2} (hv:∀r ∈ D,cr r v≠0)
include h hv
theorem OM (hD:D≠[]):∃u∈D,∃w∈D,cr u v>0/\cr w v<0/\cr u w≥0 /\
  (∀r∈D,cr r v>0->cr u r<=0/\cr r w≥0)/\(∀r∈D,cr r v<0->cr r w<=0/\cr u r≥0):=by
 obtain ⟨d,hd⟩:=List.exists_mem_of_ne_nil D hD
 have pos:∃r∈D,cr r v>0:=by
  by_cases hp:cr d v>0
  ·exact ⟨d,hd,hp⟩
  ·obtain ⟨s,hs,ho⟩:=h.cl d hd
   obtain ⟨c,c0,e,_⟩:=jP ho v
   have:=hv d hd
   exact ⟨s,hs,by rw [e];have:=mp c0 (show -(cr d v)>0 by grind);grind⟩
 obtain ⟨u,hu,u1,u2⟩:=K8 D v pos
 have neg:∃r∈D,cr r v<0:=by
  obtain ⟨s,hs,ho⟩:=h.cl u hu
  obtain ⟨c,c0,e,_⟩:=jP ho v
  exact ⟨s,hs,by rw [e];have:=mp c0 u1;grind⟩
 obtain ⟨w,hw,w1,w2⟩:=Oh D v neg
 have A:∀r∈D,cr r v>0->cr r w≥0:=fun r hr hp=>by
  obtain ⟨s,hs,ho⟩:=h.cl r hr
  obtain ⟨c,c0,e,_⟩:=jP ho v
  obtain ⟨c',c0',e',_⟩:=jP ho w
  have:=w2 s hs (by rw [e];have:=mp c0 hp;grind)
  rw [e'] at this
  by_cases hh:cr r w≥0
  ·exact hh
  ·have:=mp c0' (show -(cr r w)>0 by grind);grind
 have B:∀r∈D,cr r v<0->cr u r≥0:=fun r hr hp=>by
  obtain ⟨s,hs,ho⟩:=h.cl r hr
  obtain ⟨c,c0,e,_⟩:=jP ho v
  obtain ⟨c',c0',e',_⟩:=jP ho u
  have:=u2 s hs (by rw [e];have:=mp c0 (show -(cr r v)>0 by grind);grind)
  rw [e'] at this
  have sw:=cj r u
  by_cases hh:cr u r≥0
  ·exact hh
  ·have:=mp c0' (show cr r u>0 by grind);grind
 refine ⟨u,hu,w,hw,u1,w1,A u hu u1,fun r hr hp=>⟨?_,A r hr hp⟩,fun r hr hp=>⟨w2 r hr hp,B r hr hp⟩⟩
 have:=u2 r hr hp
 have sw:=cj u r
 grind
omit hv in
theorem jy {i j:Nat}{a b:V2}(hi:D[i]?=some a)(hj:D[j]?=some b)(wL:i<j):oh a b:=by
 obtain ⟨h1,e1⟩:=List.getElem?_eq_some_iff.1 hi
 obtain ⟨h2,e2⟩:=List.getElem?_eq_some_iff.1 hj
 have:=List.pairwise_iff_getElem.1 h.Ao i j h1 h2 wL
 rwa [e1,e2] at this
theorem SY (hD:D≠[]):∃i u w,D[i]?=some u/\D[(i+1)%D.length]?=some w/\cr u v>0/\cr w v<0/\cr u w≥0 /\
  (∀r∈D,cr r v>0->cr u r<=0/\cr r w≥0)/\(∀r∈D,cr r v<0->cr r w<=0/\cr u r≥0):=by
 obtain ⟨u,hu,w,hw,u1,w1,uw,hp,hn⟩:=OM h hv hD
 obtain ⟨i,hi⟩:=List.getElem?_of_mem hu
 obtain ⟨j,hj⟩:=List.getElem?_of_mem hw
 have li:i<D.length:=(List.getElem?_eq_some_iff.1 hi).1
 have lj:j<D.length:=(List.getElem?_eq_some_iff.1 hj).1
 have ij:i≠j:=fun e=>by
  subst e;rw [hi] at hj;cases hj;grind
 refine ⟨i,u,w,hi,?_,u1,w1,uw,hp,hn⟩
 by_cases e:(i+1)%D.length=j
 ·rw [e];exact hj
 have lk:(i+1)%D.length<D.length:=Nat.mod_lt _ (by omega)
 obtain ⟨r,hr⟩:∃r,D[(i+1)%D.length]?=some r:=⟨_,List.getElem?_eq_getElem lk⟩
 have hm:r∈D:=List.mem_of_getElem? hr
 refine (Wh (h.nz u hu) (h.nz w hw) (h.nz r hm) (v:=v) ?_ (hv r hm) (fun a=>(hp r hm a).1) (fun a=>(hn r hm a).1) uw).elim
 by_cases hl:i+1<D.length
 ·rw [Nat.mod_eq_of_lt hl] at hr e
  by_cases hlt:i<j
  ·exact .inl ⟨jy h hi hr (by omega),jy h hr hj (by omega)⟩
  ·exact .inr (.inl ⟨jy h hj hi (by omega),jy h hi hr (by omega)⟩)
 ·have:i+1=D.length:=by omega
  rw [this,Nat.mod_self] at hr e
  exact .inr (.inr ⟨jy h hr hj (by omega),jy h hj hi (by omega)⟩)
end
theorem JU {r:V2}(h:nz r){c:Rat}(h1:c*r.1=0)(h2:c*r.2=0):c=0:=by
 rcases Rat.mul_eq_zero.1 h1 with e|e
 ·exact e
 ·rcases Rat.mul_eq_zero.1 h2 with e'|e'
  ·exact e'
  ·unfold nz at h;grind
theorem sq_pos {u:V2}(h:nz u):dt u u>0:=by
 have sq:∀x:Rat,x*x≥0:=fun x=>by
  by_cases hx:x≥0
  ·exact mn hx hx
  ·have:=mn (show -x≥0 by grind) (show -x≥0 by grind);grind
 have:=sq u.1
 have:=sq u.2
 unfold dt
 by_cases hh:u.1*u.1+u.2*u.2>0
 ·exact hh
 ·unfold nz at h
  have e1:u.1*u.1=0:=by grind
  have e2:u.2*u.2=0:=by grind
  rcases Rat.mul_eq_zero.1 e1 with e|e<;>rcases Rat.mul_eq_zero.1 e2 with e'|e'<;>grind
def qG (u w v':V2):Prop:=cr u w>0/\(∃a b:Rat,a>0/\b>0/\v'=wN a u b w)\/cr u w<=0/\∃a:Rat,a>0/\v'=wN a (Ek u) 0 w
section
variable {D:List V2} (h:Am D)
include h
theorem I6 {v u w v':V2}(hu:u∈D)(hw:w∈D)(u1:cr u v>0)(w1:cr w v<0)(uw:cr u w≥0)
  (hp:∀r∈D,cr r v>0->cr u r<=0/\cr r w≥0)(hn:∀r∈D,cr r v<0->cr r w<=0/\cr u r≥0)
  (hs:qG u w v'){r:V2}(hr:r∈D):(cr r v>0->cr r v'>0)/\(cr r v<0->cr r v'<0):=by
 rcases hs with ⟨c,a,b,a0,b0,rfl⟩|⟨c,a,a0,rfl⟩
 ·have key:cr r u=0->cr r w=0->False:=fun e1 e2=>by
   have:=Gh u w r
   have:=zi u w r
   have s:=cj u r
   have:=JU (h.nz r hr) (c:=cr u w) (by grind) (by grind)
   grind
  have s:=cj u r
  rw [qX]
  constructor
  ·intro p
   obtain ⟨p1,p2⟩:=hp r hr p
   have m1:=mn (show a≥0 by grind) (show cr r u≥0 by grind)
   have m2:=mn (show b≥0 by grind) p2
   by_cases z:cr r u=0
   ·have:=mp b0 (show cr r w>0 by grind);grind
   ·have:=mp a0 (show cr r u>0 by grind);grind
  ·intro p
   obtain ⟨p1,p2⟩:=hn r hr p
   have m1:=mn (show a≥0 by grind) (show -(cr r u)≥0 by grind)
   have m2:=mn (show b≥0 by grind) (show -(cr r w)≥0 by grind)
   by_cases z:cr r u=0
   ·have:=mp b0 (show -(cr r w)>0 by grind);grind
   ·have:=mp a0 (show -(cr r u)>0 by grind);grind
 ·have z:cr u w=0:=by grind
  rw [qX,CO]
  have nu:=sq_pos (h.nz u hu)
  by_cases z0:cr r v=0
  ·exact ⟨fun p=>by grind,fun p=>by grind⟩
  have pl:cr u r=0:=by
   have e1:=Gh u w v
   have e2:=zi u w v
   have s1:=cj v w
   have s2:=cj u r
   have ew:cr u v*cr r w=cr w v*cr r u:=by
    have:cr u v*w.1=cr w v*u.1:=by grind
    have:cr u v*w.2=cr w v*u.2:=by grind
    unfold cr at *
    grind
   by_cases q:cr u r=0
   ·exact q
   ·by_cases p:cr r v>0
    ·obtain ⟨p1,p2⟩:=hp r hr p
     have m1:=mn (show cr u v≥0 by grind) p2
     have m2:=mp (show -(cr w v)>0 by grind) (show cr r u>0 by grind)
     grind
    ·obtain ⟨p1,p2⟩:=hn r hr (by grind)
     have m1:=mn (show cr u v≥0 by grind) (show -(cr r w)≥0 by grind)
     have m2:=mp (show -(cr w v)>0 by grind) (show -(cr r u)>0 by grind)
     grind
  have id:cr r v*dt u u=cr u v*dt r u:=by
   have:cr r v*dt u u-cr u v*dt r u=cr u r*(-(dt u v)):=by unfold cr dt;grind
   grind
  constructor
  ·intro p
   have m1:=mp p nu
   have:dt r u>0:=by
    by_cases q:dt r u>0
    ·exact q
    ·have:=mn (show cr u v≥0 by grind) (show -(dt r u)≥0 by grind);grind
   have:=mp a0 this
   grind
  ·intro p
   have m1:=mp (show -(cr r v)>0 by grind) nu
   have:-(dt r u)>0:=by
    by_cases q:-(dt r u)>0
    ·exact q
    ·have:=mn (show cr u v≥0 by grind) (show dt r u≥0 by grind);grind
   have:=mp a0 this
   grind
end
theorem Mw {u w s:V2}(nu:nz u)(nw:nz w)(ns:nz s)(o:oh s u/\oh u w\/oh u w/\oh w s\/oh w s/\oh s u)
  (a:cr u s>0)(b:cr s w>0)(c:cr u w>0):False:=by
 have e2:=zi u w s
 have e1:=Gh u w s
 have s1:=cj u s
 have s2:=cj s w
 rcases jH nu with hu|hu<;>rcases jH nw with hw|hw<;>rcases jH ns with hs|hs
 ·rcases o with ⟨p,q⟩|⟨p,q⟩|⟨p,q⟩
  ·have:=dD hs hu p;grind
  ·have:=dD hw hs q;grind
  ·have:=dD hw hs p;grind
 ·unfold up at hu hw
  unfold dn at hs
  have m1:=mn (show cr u s≥0 by grind) (show w.2≥0 by grind)
  have m2:=mn (show cr s w≥0 by grind) (show u.2≥0 by grind)
  have m3:=mn (show cr u w≥0 by grind) (show -s.2≥0 by grind)
  have z1:cr u s*w.2=0:=by grind
  have z2:cr s w*u.2=0:=by grind
  have w2:w.2=0:=by rcases Rat.mul_eq_zero.1 z1 with h|h<;>grind
  have u2:u.2=0:=by rcases Rat.mul_eq_zero.1 z2 with h|h<;>grind
  unfold cr at c
  rw [w2,u2] at c
  grind
 ·rcases o with ⟨p,q⟩|⟨p,q⟩|⟨p,q⟩
  ·have:=dD hs hu p;grind
  ·exact bS hw hs q
  ·exact bS hw hs p
 ·rcases o with ⟨p,q⟩|⟨p,q⟩|⟨p,q⟩
  ·exact bS hs hu p
  ·have:=dp hw hs q;grind
  ·exact bS hs hu q
 ·rcases o with ⟨p,q⟩|⟨p,q⟩|⟨p,q⟩
  ·exact bS hu hw q
  ·exact bS hu hw p
  ·have:=dD hw hs p;grind
 ·rcases o with ⟨p,q⟩|⟨p,q⟩|⟨p,q⟩
  ·exact bS hu hw q
  ·exact bS hu hw p
  ·have:=dp hs hu q;grind
 ·unfold dn at hu hw
  unfold up at hs
  have m1:=mn (show cr u s≥0 by grind) (show -w.2≥0 by grind)
  have m2:=mn (show cr s w≥0 by grind) (show -u.2≥0 by grind)
  have m3:=mn (show cr u w≥0 by grind) (show s.2≥0 by grind)
  have z1:cr u s*w.2=0:=by grind
  have z2:cr s w*u.2=0:=by grind
  have w2:w.2=0:=by rcases Rat.mul_eq_zero.1 z1 with h|h<;>grind
  have u2:u.2=0:=by rcases Rat.mul_eq_zero.1 z2 with h|h<;>grind
  unfold cr at c
  rw [w2,u2] at c
  grind
 ·rcases o with ⟨p,q⟩|⟨p,q⟩|⟨p,q⟩
  ·have:=dp hs hu p;grind
  ·have:=dp hw hs q;grind
  ·have:=dp hw hs p;grind
theorem Ju {u w s:V2}(nu:nz u)(nw:nz w)(ns:nz s)(o:oh s u/\oh u w\/oh u w/\oh w s\/oh w s/\oh s u)
  (a:cr u s>0)(c:cr u w<=0):False:=by
 have s1:=cj u s
 rcases jH nu with hu|hu<;>rcases jH ns with hs|hs
 ·rcases o with ⟨p,q⟩|⟨p,q⟩|⟨p,q⟩
  ·have:=dD hs hu p;grind
  ·rcases jH nw with hw|hw
   ·have:=dD hu hw p;grind
   ·exact bS hw hs q
  ·have:=dD hs hu q;grind
 ·rcases o with ⟨p,q⟩|⟨p,q⟩|⟨p,q⟩
  ·exact bS hs hu p
  ·rcases jH nw with hw|hw
   ·have:=dD hu hw p;grind
   ·exact b2 hu hs hw c (dp hw hs q) (by grind)
  ·exact bS hs hu q
 ·rcases o with ⟨p,q⟩|⟨p,q⟩|⟨p,q⟩
  ·rcases jH nw with hw|hw
   ·exact bS hu hw q
   ·have:=dp hu hw q;grind
  ·rcases jH nw with hw|hw
   ·exact bS hu hw p
   ·have:=dp hu hw p;grind
  ·rcases jH nw with hw|hw
   ·exact b4 hu hs hw c (dD hw hs p) (by grind)
   ·exact bS hw hs p
 ·rcases o with ⟨p,q⟩|⟨p,q⟩|⟨p,q⟩
  ·have:=dp hs hu p;grind
  ·rcases jH nw with hw|hw
   ·exact bS hu hw p
   ·have:=dp hu hw p;grind
  ·have:=dp hs hu q;grind
section
variable {D:List V2} (h:Am D)
include h
theorem Qr {i k:Nat}{u w s:V2}(hi:D[i]?=some u)(hw:D[(i+1)%D.length]?=some w)(hk:D[k]?=some s)
  (n1:k≠i)(n2:k≠(i+1)%D.length):oh s u/\oh u w\/oh u w/\oh w s\/oh w s/\oh s u:=by
 have li:i<D.length:=(List.getElem?_eq_some_iff.1 hi).1
 have lk:k<D.length:=(List.getElem?_eq_some_iff.1 hk).1
 by_cases hl:i+1<D.length
 ·rw [Nat.mod_eq_of_lt hl] at hw n2
  by_cases hlt:k<i
  ·exact .inl ⟨jy h hk hi hlt,jy h hi hw (by omega)⟩
  ·exact .inr (.inl ⟨jy h hi hw (by omega),jy h hw hk (by omega)⟩)
 ·have:i+1=D.length:=by omega
  rw [this,Nat.mod_self] at hw n2
  exact .inr (.inr ⟨jy h hw hk (by omega),jy h hk hi (by omega)⟩)
theorem Lu {i:Nat}{u w v':V2}(hi:D[i]?=some u)(hw:D[(i+1)%D.length]?=some w)(hs:qG u w v') :
  ∀r∈D,cr r v'≠0:=by
 intro r hr z
 have hu:u∈D:=List.mem_of_getElem? hi
 have Nt:w∈D:=List.mem_of_getElem? hw
 have nu:=sq_pos (h.nz u hu)
 have nr:=sq_pos (h.nz r hr)
 rcases hs with ⟨c,a,b,a0,b0,rfl⟩|⟨c,a,a0,rfl⟩
 ·
  have key:∀s∈D,cr s (wN a u b w)=0->cr u s>0->False:=fun s hs z p=>by
   have s1:=cj u s
   rw [qX,s1] at z
   have q:cr s w>0:=by
    by_cases q:cr s w>0
    ·exact q
    ·have:=mp a0 p
     have:=mn (show b≥0 by grind) (show -(cr s w)≥0 by grind)
     grind
   obtain ⟨k,hk⟩:=List.getElem?_of_mem hs
   refine Mw (h.nz u hu) (h.nz w Nt) (h.nz s hs) (Qr h hi hw hk (fun e=>?_) (fun e=>?_)) p q c
   ·rw [e,hi] at hk;cases hk;unfold cr at p;grind
   ·rw [e,hw] at hk;cases hk;unfold cr at q;grind
  by_cases p:cr u r>0
  ·exact key r hr z p
  ·obtain ⟨s,hs,ho⟩:=h.cl r hr
   obtain ⟨k,k0,e1,e2⟩:=jP ho u
   obtain ⟨k',YZ,e3,_⟩:=jP ho (wN a u b w)
   by_cases q:cr u r=0
   ·have s1:=cj u r
    rw [qX,s1,q] at z
    have:b*cr r w=0:=by grind
    have Zb:cr r w=0:=by rcases Rat.mul_eq_zero.1 this with e|e<;>grind
    have j1:=Gh u w r
    have j2:=zi u w r
    have:=JU (h.nz r hr) (c:=cr u w) (by grind) (by grind)
    grind
   ·refine key s hs (by rw [e3,z];grind) ?_
    rw [e2]
    have:=mp k0 (show -(cr u r)>0 by grind)
    grind
 ·have key:∀s∈D,cr u s>0->False:=fun s hs p=>by
   obtain ⟨k,hk⟩:=List.getElem?_of_mem hs
   refine Ju (h.nz u hu) (h.nz w Nt) (h.nz s hs) (Qr h hi hw hk (fun e=>?_) (fun e=>?_)) p c
   ·rw [e,hi] at hk;cases hk;unfold cr at p;grind
   ·rw [e,hw] at hk;cases hk;grind
  rw [qX,CO] at z
  have d0:dt r u=0:=by
   have:a*dt r u=0:=by grind
   rcases Rat.mul_eq_zero.1 this with e|e<;>grind
  have c0:cr u r≠0:=fun e=>by
   have:cr u r*cr u r+dt r u*dt r u=dt u u*dt r r:=by unfold cr dt;grind
   have:=mp nu nr
   grind
  by_cases p:cr u r>0
  ·exact key r hr p
  ·obtain ⟨s,hs,ho⟩:=h.cl r hr
   obtain ⟨k,k0,e1,e2⟩:=jP ho u
   refine key s hs ?_
   rw [e2]
   have:=mp k0 (show -(cr u r)>0 by grind)
   grind
def Er (D S:List V2):Prop:=(D=[]/\S=[(1,0)])\/D≠[]/\(∀x∈S,∃i u w,D[i]?=some u/\D[(i+1)%D.length]?=some w/\qG u w x) /\
 ∀i u w,D[i]?=some u->D[(i+1)%D.length]?=some w->∃x∈S,qG u w x
theorem qm {S:List V2}(hS:Er D S):∀x∈S,∀r∈D,cr r x≠0:=by
 rcases hS with ⟨rfl,rfl⟩|⟨_,h1,_⟩
 ·intro x _ r hr;cases hr
 ·intro x hx
  obtain ⟨i,u,w,a,b,c⟩:=h1 x hx
  exact Lu h a b c
theorem Ja {S:List V2}(hS:Er D S){v:V2}(hv:∀r∈D,cr r v≠0) :
  ∃x∈S,∀r∈D,(cr r v>0->cr r x>0)/\(cr r v<0->cr r x<0):=by
 rcases hS with ⟨rfl,rfl⟩|⟨h0,_,h2⟩
 ·exact ⟨_,List.mem_singleton.2 rfl,fun r hr=>by cases hr⟩
 ·obtain ⟨i,u,w,hi,hw,u1,w1,uw,hp,hn⟩:=SY h hv h0
  obtain ⟨x,hx,hs⟩:=h2 i u w hi hw
  exact ⟨x,hx,fun r hr=>I6 h (List.mem_of_getElem? hi) (List.mem_of_getElem? hw) u1 w1 uw hp hn hs hr⟩
end
theorem Mv (x:Rat):∃y:Rat,y≥0/\x<=y/\-x<=y:=by
 by_cases h:x≥0
 ·exact ⟨x,h,by grind,by grind⟩
 ·exact ⟨-x,by grind,by grind,by grind⟩
theorem OE (v:V2)(hv:nz v)(r:V2)(hr:nz r):∃e:Rat,e>0/\∀t:Rat,0<t->t<=e ->
  (cr r v>0->cr r (wN 1 v t (Ek v))>0)/\(cr r v<0->cr r (wN 1 v t (Ek v))<0)/\cr r (wN 1 v t (Ek v))≠0:=by
 have key:∀t:Rat,cr r (wN 1 v t (Ek v))=cr r v+t*dt r v:=fun t=>by rw [qX,CO];grind
 by_cases z:cr r v=0
 ·have d0:dt r v≠0:=fun e=>by
   have:cr r v*cr r v+dt r v*dt r v=dt r r*dt v v:=by unfold cr dt;grind
   have:=mp (sq_pos hr) (sq_pos hv)
   grind
  refine ⟨1,by grind,fun t t0 _=>?_⟩
  rw [key]
  refine ⟨fun h=>by grind,fun h=>by grind,fun h=>?_⟩
  have:t*dt r v=0:=by grind
  rcases Rat.mul_eq_zero.1 this with e|e<;>grind
 ·obtain ⟨y,y0,y1,y2⟩:=Mv (dt r v)
  obtain ⟨x,x0,x1,x2⟩:∃x:Rat,x>0/\(cr r v>0->x=cr r v)/\(cr r v<0->x=-(cr r v)):=by
   by_cases p:cr r v>0
   ·exact ⟨cr r v,p,fun _=>rfl,fun h=>by grind⟩
   ·exact ⟨-(cr r v),by grind,fun h=>by grind,fun _=>rfl⟩
  have y3:y+1>0:=by grind
  have inv:(y+1)⁻¹>0:=Rat.inv_pos.2 y3
  refine ⟨x*(y+1)⁻¹,mp x0 inv,fun t t0 te=>?_⟩
  have m1:t*(y+1)<=x:=by
   have:=mn (show x*(y+1)⁻¹-t≥0 by grind) (show y+1≥0 by grind)
   have e:(y+1)⁻¹*(y+1)=1:=Rat.inv_mul_cancel _ (by grind)
   have:x*(y+1)⁻¹*(y+1)=x:=by rw [Rat.mul_assoc,e,Rat.mul_one]
   grind
  have m2:=mn (show t≥0 by grind) (show y-dt r v≥0 by grind)
  have m3:=mn (show t≥0 by grind) (show y+dt r v≥0 by grind)
  rw [key]
  refine ⟨fun h=>?_,fun h=>?_,fun h=>?_⟩
  ·have:=x1 h;grind
  ·have:=x2 h;grind
  ·by_cases p:cr r v>0
   ·have:=x1 p;grind
   ·have:=x2 (by grind);grind
theorem OD (v:V2)(hv:nz v):∀R:List V2,(∀r∈R,nz r)->∃e:Rat,e>0/\∀t:Rat,0<t->t<=e->∀r∈R,
  (cr r v>0->cr r (wN 1 v t (Ek v))>0)/\(cr r v<0->cr r (wN 1 v t (Ek v))<0)/\cr r (wN 1 v t (Ek v))≠0
 | [],_=>⟨1,by grind,fun t _ _ r hr=>by cases hr⟩
 | r::R,h=>by
  obtain ⟨e,e0,he⟩:=OD v hv R fun r hr=>h r (List.mem_cons_of_mem _ hr)
  obtain ⟨f,f0,hf⟩:=OE v hv r (h r (List.mem_cons_self ..))
  obtain ⟨g,g0,g1,g2⟩:∃g:Rat,g>0/\g<=e/\g<=f:=by
   by_cases q:e<=f
   ·exact ⟨e,e0,by grind,q⟩
   ·exact ⟨f,f0,by grind,by grind⟩
  refine ⟨g,g0,fun t t0 tg s hs=>?_⟩
  rcases List.mem_cons.1 hs with rfl|hs
  ·exact hf t t0 (by grind)
  ·exact he t t0 (by grind) s hs
theorem LI (v:V2)(hv:nz v)(R:List V2)(h:∀r∈R,nz r):∃x:V2,∀r∈R,
  (cr r v>0->cr r x>0)/\(cr r v<0->cr r x<0)/\cr r x≠0:=by
 obtain ⟨e,e0,he⟩:=OD v hv R h
 exact ⟨_,he e e0 (by grind)⟩
end Go.Proofs.Tryz.ay
namespace Go.Proofs.Tryz
open Go.bK
def sC (V:View)(g:Nat)(y:Value):Prop:=V.at ⟨g,0,none⟩ y
theorem sC.le {V V':View}{g:Nat}{y:Value}(h:sC V g y)(l:V.Le V'):sC V' g y:=l.at h
def Mr (y:Value):Prop:=∃a:Addr,y=.iface 315 (.pointer (some a))
section
open Go.RowKit Go.Extern.Stop Go.Stop Go.Extern
end
end Go.Proofs.Tryz
namespace Go.bK
open Go.fV
theorem ar {x:Int}(h:-9223372036854775808<=x/\x<=9223372036854775807):i64.wrap x=x:=IntWalk.i64_in x h
theorem aL {x:Int}(h:0<=x/\x<=18446744073709551615):u64.wrap x=x:=IntWalk.u64_in x h
theorem qt {x:Int}(h:0<=x/\x<=4294967295):u32.wrap x=x:=IntWalk.u32_in x h
theorem ic (x:Int):u32.wrap x=x%4294967296:=by rw [IntKind.wrap_u32]
theorem rC (x:Int):u64.wrap x=x%18446744073709551616:=by rw [IntKind.wrap_u64]
theorem lN {x:Int}:x.fdiv (2^32)=x / 4294967296:=by rw [Int.fdiv_eq_ediv_of_nonneg _ (by decide)];rfl
theorem Hm {x:Int}:x.fdiv (2^63)=x / 9223372036854775808:=by rw [Int.fdiv_eq_ediv_of_nonneg _ (by decide)];rfl
theorem Bv (a b:Nat)(ha:a<4294967296)(hb:b<4294967296):aS .or .u64 ((a:Int)*4294967296) (b:Int)=(a:Int)*4294967296+b:=by
 have h1:((a:Int)*4294967296)=((a*2^32:Nat):Int):=by simp
 rw [aS,h1,rC]
 have h2:(BitVec.ofInt IntKind.u64.bits ((a*2^32:Nat):Int) ||| BitVec.ofInt IntKind.u64.bits (b:Int)).toNat=a*2^32+b:=by
  show (BitVec.ofInt 64 ((a*2^32:Nat):Int) ||| BitVec.ofInt 64 (b:Int)).toNat=_
  rw [BitVec.ofInt_natCast,BitVec.ofInt_natCast,BitVec.toNat_or,BitVec.toNat_ofNat,BitVec.toNat_ofNat,Nat.mod_eq_of_lt (by omega),Nat.mod_eq_of_lt (by omega)]
  have:=Nat.shiftLeft_add_eq_or_of_lt (b:=b) (i:=32) (by omega) a
  rw [Nat.shiftLeft_eq] at this
  exact this.symm
 rw [h2]
 omega
def aF (ds:List Nat):List Value:=ds.map fun (d:Nat)=>Value.int .u32 (d:Int)
@[simp] theorem OQ (ds:List Nat):(aF ds).length=ds.length:=by simp [aF]
theorem bq (ds:List Nat)(i x:Nat):(aF ds).set i (.int .u32 (x:Int))=aF (ds.set i x):=by simp [aF,List.map_set]
theorem cH (n:Nat):List.replicate n (Value.int .u32 0)=aF (List.replicate n 0):=by simp [aF]
theorem fq {ds:List Nat}{i:Nat}(h:i<ds.length):(aF ds)[i]?=some (.int .u32 (ds[i]:Int)):=by simp [aF,h]
theorem yC (ds:List Nat)(k:Nat):aF (ds.take k)=(aF ds).take k:=by simp [aF,List.map_take]
theorem Ff (ds:List Nat)(k:Nat):aF (ds.drop k)=(aF ds).drop k:=by simp [aF,List.map_drop]
theorem si (a b:List Nat):aF (a++b)=aF a++aF b:=by simp [aF]
theorem View.Le.sl {V V':View}(h:V.Le V'){a:OA}{xs:List Value}(hs:V.sl a xs):V'.sl a xs:=
 fun i v hv=>let ⟨ad,e,ha⟩:=hs i v hv;⟨ad,e,h.at ha⟩
structure RD (V:View) (p:OA) (n c:Nat) (ds:List Nat):Prop where
 len:n=ds.length
 cap:n<=c
 sl:V.sl p (aF ds)
 eI:bV ds
 Br:p.isNone=true->c=0
theorem RD.le {V V':View}{p:OA}{n c:Nat}{ds:List Nat}(h:RD V p n c ds)(l:V.Le V'):RD V' p n c ds:=⟨h.len,h.cap,l.sl h.sl,h.eI,h.Br⟩
theorem RD.nil {V:View}:RD V none 0 0 []:=⟨rfl,Nat.le_refl _,fun i v h=>by simp [aF] at h,bV.nil,fun _=>rfl⟩
theorem RD.take {V:View}{p:OA}{n c:Nat}{ds:List Nat}(h:RD V p n c ds){k:Nat}(hk:k<=n):RD V p k c (ds.take k):=by
 have:=h.len
 refine ⟨by simp;omega,by have:=h.cap;omega,fun i v hv=>h.sl i v ?_,h.eI.take k,h.Br⟩
 rw [yC] at hv
 rw [List.getElem?_take] at hv
 split at hv
 ·exact hv
 ·cases hv
theorem RD.rd {V:View}{p:OA}{n c:Nat}{ds:List Nat}(h:RD V p n c ds){i:Int}{K:Int->Prop}(j:Nat)(hj:i=j)(hn:j<ds.length)
  (hK:K ((ds[j]:Nat):Int)):(p.isSome=true)/\(0<=i/\i<(n:Int))/\∃x:Int,(∃a,ah p (i.toNat*1)=some a/\V.at a (.int .u32 x))/\K x:=by
 obtain ⟨ad,e,ha⟩:=h.sl j _ (fq hn)
 have:=h.len
 subst hj
 refine ⟨by rw [e];rfl,⟨by omega,by omega⟩,_,⟨ad.add j,?_,ha⟩,hK⟩
 rw [e];simp [ah]
theorem cU {V:View}{b:Nat}{xs:List Value}{ty:TypeId}{m:Nat×Nat}(h:V.bE b (.cells xs.toArray ty m)){i:Nat}{v:Value}(hv:xs[i]?=some v):V.at ⟨b,i,none⟩ v:=by
 refine ⟨h.1,?_⟩
 unfold World.cell?
 rw [h.2]
 simpa using hv
theorem add_zero' (b i:Nat):(⟨b,0,none⟩:Addr).add i=⟨b,i,none⟩:=by
 unfold Addr.add
 split
 ·rename_i h;simp_all
 ·simp
theorem RD.bE {V:View}{b:Nat}{ds:List Nat}{ty:TypeId}{m:Nat×Nat}(h:V.bE b (.cells (aF ds).toArray ty m))(hd:bV ds){n c:Nat}(hn:n=ds.length)(hc:n<=c):RD V (some ⟨b,0,none⟩) n c ds:=
 ⟨hn,hc,fun i v hv=>⟨_,rfl,by rw [add_zero'];exact cU h hv⟩,hd,fun e=>nomatch e⟩
end Go.bK
namespace Go.fV
def bh (n:Nat):Nat:=if n=0 then 0 else n.log2+1
theorem pU (n:Nat):n<2^bh n:=by
 unfold bh;split
 ·subst_vars;decide
 ·exact Nat.lt_log2_self
theorem pR {n:Nat}(h:n≠0):2^(bh n-1)<=n:=by
 unfold bh;rw [if_neg h];exact Nat.log2_self_le h
theorem rK {n b:Nat}(h0:n<2^b)(h1:b=0\/2^(b-1)<=n):bh n=b:=by
 rcases h1 with h1|h1
 ·subst h1;have:n=0:=by simpa using h0
  subst this;rfl
 ·have hn:n≠0:=by have:=Nat.two_pow_pos (b-1);omega
  have g0:=pU n
  have g1:=pR hn
  have e1:¬bh n<b:=fun h=>by have:=Nat.pow_le_pow_right (n:=2) (by omega) (show bh n<=b-1 by omega);omega
  have e2:¬b<bh n:=fun h=>by have:=Nat.pow_le_pow_right (n:=2) (by omega) (show b<=bh n-1 by omega);omega
  omega
theorem fX {n b:Nat}:bh n<=b↔n<2^b:=by
 constructor
 ·intro h;exact Nat.lt_of_lt_of_le (pU n) (Nat.pow_le_pow_right (by omega) h)
 ·intro h
  rcases Nat.lt_or_ge b (bh n) with h'|h'
  ·have hn:n≠0:=by intro e;subst e;simp [bh] at h'
   have:=pR hn
   have:=Nat.pow_le_pow_right (n:=2) (by omega) (show b<=bh n-1 by omega)
   omega
  ·exact h'
theorem tX {n k:Nat}(h:2^k<=n):bh (n / 2^k)+k=bh n:=by
 have hp:=Nat.two_pow_pos k
 have hq:n / 2^k≠0:=by have:=Nat.div_pos h hp;omega
 have g0:=pU (n / 2^k)
 have g1:=pR hq
 refine (rK ?_ (.inr ?_)).symm
 ·rw [Nat.pow_add];exact (Nat.div_lt_iff_lt_mul hp).1 g0
 ·have hb:0<bh (n / 2^k):=by unfold bh;rw [if_neg hq];omega
  rw [show bh (n / 2^k)+k-1=bh (n / 2^k)-1+k from by omega,Nat.pow_add]
  exact (Nat.le_div_iff_mul_le hp).1 g1
end Go.fV
namespace Go.Proofs.Tryz
open Go.bK Go.fV
theorem fk (a k:Nat):((a:Nat):Int).fdiv (2^k)=((a / 2^k:Nat):Int):=by
 rw [Int.fdiv_eq_ediv_of_nonneg _ (by have:=Int.pow_pos (n:=2) (m:=k) (by omega);omega)]
 simp
def Bl:ByteArray:=⟨#[0,1,2,2,3,3,3,3,4,4,4,4,4,4,4,4,5,5,5,5,5,5,5,5,5,5,5,5,5,5,5,5,6,6,6,6,6,6,6,6,6,6,6,6,6,6,6,6,6,6,6,6,6,6,6,6,6,6,6,6,6,6,6,6,7,7,7,7,7,7,7,7,7,7,7,7,7,7,7,7,7,7,7,7,7,7,7,7,7,7,7,7,7,7,7,7,7,7,7,7,7,7,7,7,7,7,7,7,7,7,7,7,7,7,7,7,7,7,7,7,7,7,7,7,7,7,7,7,8,8,8,8,8,8,8,8,8,8,8,8,8,8,8,8,8,8,8,8,8,8,8,8,8,8,8,8,8,8,8,8,8,8,8,8,8,8,8,8,8,8,8,8,8,8,8,8,8,8,8,8,8,8,8,8,8,8,8,8,8,8,8,8,8,8,8,8,8,8,8,8,8,8,8,8,8,8,8,8,8,8,8,8,8,8,8,8,8,8,8,8,8,8,8,8,8,8,8,8,8,8,8,8,8,8,8,8,8,8,8,8,8,8,8,8,8,8,8,8,8,8,8,8,8,8,8,8]⟩
set_option maxRecDepth 10000 in
theorem H0 {V:View}(x:Nat)(hx:x<4294967296) :
  ab prog 219 #[.int .u32 (x:Int)] V fun r V'=>r=.int .i64 (bh x:Int):=by
 refine oW _ V _ ⟨fun z _=>∃y b:Nat,z=((y:Int),(b:Int))/\y<65536/\b<=16/\bh x=bh y+b,⟨fun h0=>⟨by omega,?_⟩,fun h0=>?_⟩,?_⟩
 ·rw [fk]
  have h0:2^16<=x:=by simp at h0;omega
  exact ⟨_,⟨rfl,rfl⟩,x / 2^16,16,rfl,by omega,by omega,(tX h0).symm⟩
 ·exact ⟨_,⟨rfl,rfl⟩,x,0,rfl,by simp at h0;omega,by omega,rfl⟩
 ·rintro _ V1 l1 ⟨y,b,rfl,hy,hb,e⟩
  rw [e];clear e
  refine ⟨by trivial,fun z _=>∃y' b':Nat,z=((y':Int),(b':Int))/\y'<256/\b'<=24/\bh y+b=bh y'+b',⟨fun h0=>⟨by omega,?_⟩,fun h0=>?_⟩,?_⟩
  ·dsimp only at h0 ⊢
   rw [fk]
   simp (disch:=omega) only [ar]
   have h0:2^8<=y:=by simp at h0;omega
   exact ⟨(((y / 2^8:Nat):Int),(b:Int)+8),⟨rfl,rfl⟩,y / 2^8,b+8,by simp,by omega,by omega,by have:=tX h0;omega⟩
  ·exact ⟨_,⟨rfl,rfl⟩,y,b,rfl,by simp at h0;omega,by omega,rfl⟩
  ·rintro _ V2 l2 ⟨y,b,rfl,hy,hb,e⟩
   rw [e];clear e
   have hw:IntKind.u8.wrap (y:Int)=y:=IntWalk.u8_in _ (by omega)
   dsimp only
   rw [hw]
   have hsz:(Bl.size:Int)=256:=rfl
   refine ⟨by trivial,⟨by omega,by show (y:Int)<(Bl.size:Int);rw [hsz];omega⟩,fun V3 l3=>?_⟩
   show Value.int .i64 (i64.wrap (b+i64.wrap ((Bl.data.toList.getD (y:Int).toNat 0).toNat:Int)))=_
   congr 1
   have key:∀y:Nat,y<256->(Bl.data.toList.getD y 0).toNat=bh y:=by decide +kernel
   have hbl:bh y<=8:=fX.2 (by omega)
   have:=key y hy
   rw [Int.toNat_natCast,this]
   simp (disch:=omega) only [ar]
   omega
theorem fK {V:View}(x:Nat)(hx:x<4294967296) :
  ab prog 197 #[.int .u32 (x:Int)] V fun r V'=>r=.int .i64 (32-(bh x:Int)):=by
 refine ik _ V _ fun V1 l1=>(H0 x hx).mono ?_
 rintro r V2 l2 rfl
 have hbl:bh x<=32:=fX.2 (by omega)
 refine ⟨_,rfl,fun V3 l3=>?_⟩
 simp (disch:=omega) only [ar]
theorem DP (a:Nat)(ha:a<18446744073709551616):aS .and .u64 (a:Int) 4294967295=((a%4294967296:Nat):Int):=by
 rw [aS,rC]
 have h2:(BitVec.ofInt IntKind.u64.bits ((a:Nat):Int) &&& BitVec.ofInt IntKind.u64.bits 4294967295).toNat=a%4294967296:=by
  show (BitVec.ofInt 64 ((a:Nat):Int) &&& BitVec.ofInt 64 ((4294967295:Nat):Int)).toNat=_
  rw [BitVec.ofInt_natCast,BitVec.ofInt_natCast,BitVec.toNat_and,BitVec.toNat_ofNat,BitVec.toNat_ofNat,Nat.mod_eq_of_lt (by omega),Nat.mod_eq_of_lt (by omega)]
  have:=Nat.and_two_pow_sub_one_eq_mod a 32
  exact this
 rw [h2]
 omega
theorem Bp (a b c d:Nat)(ha:a<4294967296)(hb:b<4294967296)(hc:c<4294967296)(hd:d<4294967296) :
  a*c+(a*d+b*d / 4294967296) / 4294967296+((a*d+b*d / 4294967296)%4294967296+b*c) / 4294967296=(a*4294967296+b)*(c*4294967296+d) / 18446744073709551616 /\
  a*c<=18446744065119617025/\a*d<=18446744065119617025/\b*c<=18446744065119617025/\b*d<=18446744065119617025:=by
 have h1:a*c<=4294967295*4294967295:=Nat.mul_le_mul (by omega) (by omega)
 have h2:a*d<=4294967295*4294967295:=Nat.mul_le_mul (by omega) (by omega)
 have h3:b*c<=4294967295*4294967295:=Nat.mul_le_mul (by omega) (by omega)
 have h4:b*d<=4294967295*4294967295:=Nat.mul_le_mul (by omega) (by omega)
 have e:(a*4294967296+b)*(c*4294967296+d)=(a*c)*18446744073709551616+(a*d)*4294967296+(b*c)*4294967296+b*d:=by grind
 rw [e]
 generalize a*c=p at *
 generalize a*d=q at *
 generalize b*c=r at *
 generalize b*d=s at *
 refine ⟨by omega,by omega,by omega,by omega,by omega⟩
theorem H3 {V:View}(x y:Nat)(hx:x<18446744073709551616)(hy:y<18446744073709551616) :
  ab prog 236 #[.int .u64 (x:Int),.int .u64 (y:Int)] V fun r V'=>r=.tuple #[.int .u64 ((x*y / 18446744073709551616:Nat):Int),.int .u64 ((x*y%18446744073709551616:Nat):Int)]:=by
 refine oY _ _ V _ ⟨by omega,by omega,by omega,by omega,by omega,fun V1 l1=>?_⟩
 have p:=Bp (x / 4294967296) (x%4294967296) (y / 4294967296) (y%4294967296) (by omega) (by omega) (by omega) (by omega)
 rw [Nat.div_add_mod' x 4294967296,Nat.div_add_mod' y 4294967296] at p
 obtain ⟨p1,p2,p3,p4,p5⟩:=p
 have hlo:u64.wrap ((x:Int)*y)=((x*y%18446744073709551616:Nat):Int):=by rw [rC];simp
 rw [hlo,DP x hx,DP y hy,lN,lN]
 rw [←p1]
 have hA:((x:Int) / 4294967296)*((y:Int) / 4294967296)=((x / 4294967296*(y / 4294967296):Nat):Int):=by simp
 have hB:((x:Int) / 4294967296)*((y%4294967296:Nat):Int)=((x / 4294967296*(y%4294967296):Nat):Int):=by simp
 have hC:((x%4294967296:Nat):Int)*((y:Int) / 4294967296)=((x%4294967296*(y / 4294967296):Nat):Int):=by simp
 have hD:((x%4294967296:Nat):Int)*((y%4294967296:Nat):Int)=((x%4294967296*(y%4294967296):Nat):Int):=by simp
 rw [hA,hB,hC,hD]
 generalize x / 4294967296*(y / 4294967296)=a at *
 generalize x / 4294967296*(y%4294967296)=b at *
 generalize x%4294967296*(y / 4294967296)=c at *
 generalize x%4294967296*(y%4294967296)=d at *
 simp only [lN]
 have w1:u64.wrap (d:Int)=d:=aL (by omega)
 have w2:u64.wrap (b:Int)=b:=aL (by omega)
 have w3:u64.wrap (c:Int)=c:=aL (by omega)
 have w4:u64.wrap (a:Int)=a:=aL (by omega)
 rw [w1,w2,w3,w4]
 have w5:u64.wrap ((b:Int)+d / 4294967296)=((b+d / 4294967296:Nat):Int):=by rw [aL (by omega)];omega
 rw [w5,DP _ (by omega)]
 have w6:u64.wrap (((b+d / 4294967296)%4294967296:Nat)+(c:Int))=(((b+d / 4294967296)%4294967296+c:Nat):Int):=by rw [aL (by omega)];omega
 rw [w6]
 have hlt:x*y / 18446744073709551616<18446744073709551616:=by
  have:x*y<18446744073709551616*18446744073709551616:=Nat.mul_lt_mul'' hx hy
  omega
 have w7:u64.wrap ((a:Int)+((b+d / 4294967296:Nat):Int) / 4294967296)=((a+(b+d / 4294967296) / 4294967296:Nat):Int):=by
  rw [aL (by omega)];omega
 rw [w7]
 have w8:u64.wrap (((a+(b+d / 4294967296) / 4294967296:Nat):Int)+(((b+d / 4294967296)%4294967296+c:Nat):Int) / 4294967296)=((a+(b+d / 4294967296) / 4294967296+((b+d / 4294967296)%4294967296+c) / 4294967296:Nat):Int):=by
  rw [aL (by omega)];omega
 rw [w8]
theorem HY {V:View}(x y c:Nat)(hx:x<4294967296)(hy:y<4294967296)(hc:c<4294967296) :
  ab prog 163 #[.int .u32 (x:Int),.int .u32 (y:Int),.int .u32 (c:Int)] V fun r V'=>r=.tuple #[.int .u32 (((x+y+c)%4294967296:Nat):Int),.int .u32 (((x+y+c) / 4294967296:Nat):Int)]:=by
 refine oU _ _ _ V _ ⟨by omega,fun V1 l1=>?_⟩
 simp (disch:=omega) only [aL,ic,lN]
 have e1:((x:Int)+y+c)%4294967296=(((x+y+c)%4294967296:Nat):Int):=by omega
 have e2:((x:Int)+y+c) / 4294967296%4294967296=(((x+y+c) / 4294967296:Nat):Int):=by omega
 rw [e1,e2]
theorem Jt (a b:Nat)(ha:a<4294967296)(hb:b<4294967296):aS .and .u32 (a:Int) (b:Int)=((a &&& b:Nat):Int):=by
 have h2:(BitVec.ofInt IntKind.u32.bits ((a:Nat):Int) &&& BitVec.ofInt IntKind.u32.bits ((b:Nat):Int)).toNat=a &&& b:=by
  show (BitVec.ofInt 32 ((a:Nat):Int) &&& BitVec.ofInt 32 ((b:Nat):Int)).toNat=_
  rw [BitVec.ofInt_natCast,BitVec.ofInt_natCast,BitVec.toNat_and,BitVec.toNat_ofNat,BitVec.toNat_ofNat,Nat.mod_eq_of_lt (by omega),Nat.mod_eq_of_lt (by omega)]
 have h3:a &&& b<2^32:=Nat.and_lt_two_pow a (by omega)
 rw [aS,ic,h2]
 omega
theorem Sm (a b:Nat)(ha:a<4294967296)(hb:b<4294967296):aS .or .u32 (a:Int) (b:Int)=((a ||| b:Nat):Int):=by
 have h2:(BitVec.ofInt IntKind.u32.bits ((a:Nat):Int) ||| BitVec.ofInt IntKind.u32.bits ((b:Nat):Int)).toNat=a ||| b:=by
  show (BitVec.ofInt 32 ((a:Nat):Int) ||| BitVec.ofInt 32 ((b:Nat):Int)).toNat=_
  rw [BitVec.ofInt_natCast,BitVec.ofInt_natCast,BitVec.toNat_or,BitVec.toNat_ofNat,BitVec.toNat_ofNat,Nat.mod_eq_of_lt (by omega),Nat.mod_eq_of_lt (by omega)]
 have h3:a ||| b<2^32:=Nat.or_lt_two_pow (by omega) (by omega)
 rw [aS,ic,h2]
 omega
theorem HD (a b:Nat)(ha:a<4294967296)(hb:b<4294967296):aS .xor .u32 (a:Int) (b:Int)=((a ^^^ b:Nat):Int):=by
 have h2:(BitVec.ofInt IntKind.u32.bits ((a:Nat):Int) ^^^ BitVec.ofInt IntKind.u32.bits ((b:Nat):Int)).toNat=a ^^^ b:=by
  show (BitVec.ofInt 32 ((a:Nat):Int) ^^^ BitVec.ofInt 32 ((b:Nat):Int)).toNat=_
  rw [BitVec.ofInt_natCast,BitVec.ofInt_natCast,BitVec.toNat_xor,BitVec.toNat_ofNat,BitVec.toNat_ofNat,Nat.mod_eq_of_lt (by omega),Nat.mod_eq_of_lt (by omega)]
 have h3:a ^^^ b<2^32:=Nat.xor_lt_two_pow (by omega) (by omega)
 rw [aS,ic,h2]
 omega
theorem OP {n:Nat}(h:n<4294967296):n / 2147483648=if n.testBit 31 then 1 else 0:=by
 rw [Nat.testBit_eq_decide_div_mod_eq]
 have:(2:Nat)^31=2147483648:=by decide
 rw [this]
 split
 ·rename_i h1;simp at h1;omega
 ·rename_i h1;simp at h1;omega
theorem DT {n:Nat}(h:n<4294967296):n.testBit 31=decide (2147483648<=n):=by
 rw [Nat.testBit_eq_decide_div_mod_eq]
 have:(2:Nat)^31=2147483648:=by decide
 rw [this]
 congr 1
 simp;omega
theorem FI (x y c:Nat)(hx:x<4294967296)(hy:y<4294967296)(hc:c<=1){d:Nat}(hd:(d:Int)=((x:Int)-y-c)%4294967296) :
  (((4294967295 ^^^ x) &&& y) ||| ((4294967295 ^^^ (x ^^^ y)) &&& d)) / 2147483648=if x<y+c then 1 else 0:=by
 have h1:(4294967295 ^^^ x)<2^32:=Nat.xor_lt_two_pow (by omega) (by omega)
 have h2:x ^^^ y<2^32:=Nat.xor_lt_two_pow (by omega) (by omega)
 have h3:(4294967295 ^^^ (x ^^^ y))<2^32:=Nat.xor_lt_two_pow (by omega) h2
 have h4:(4294967295 ^^^ x) &&& y<2^32:=Nat.and_lt_two_pow _ (by omega)
 have h5:(4294967295 ^^^ (x ^^^ y)) &&& d<2^32:=Nat.and_lt_two_pow _ (by omega)
 have h6:=Nat.or_lt_two_pow h4 h5
 rw [OP h6]
 have hd':d<4294967296:=by omega
 rw [Nat.testBit_or,Nat.testBit_and,Nat.testBit_and,Nat.testBit_xor,Nat.testBit_xor,Nat.testBit_xor,DT hx,DT hy,DT hd',DT (n:=4294967295) (by omega)]
 by_cases a1:2147483648<=x<;>by_cases a2:2147483648<=y<;>by_cases a3:2147483648<=d<;>simp [a1,a2,a3]<;>omega
theorem H7 {V:View}(x y c:Nat)(hx:x<4294967296)(hy:y<4294967296)(hc:c<=1) :
  ab prog 165 #[.int .u32 (x:Int),.int .u32 (y:Int),.int .u32 (c:Int)] V fun r V'=>∃d b:Nat,r=.tuple #[.int .u32 (d:Int),.int .u32 (b:Int)]/\d<4294967296/\b<=1/\d+(y+c)=x+4294967296*b:=by
 refine oZ _ _ _ V _ ⟨by omega,fun V1 l1=>?_⟩
 obtain ⟨d,hd⟩:∃d:Nat,(d:Int)=((x:Int)-y-c)%4294967296:=⟨(((x:Int)-y-c)%4294967296).toNat,by omega⟩
 have hd':d<4294967296:=by omega
 have w1:u32.wrap (u32.wrap ((x:Int)-y)-c)=(d:Int):=by rw [ic,ic];omega
 have w2:IntKind.u32.max=((4294967295:Nat):Int):=rfl
 have h1:(4294967295 ^^^ x)<2^32:=Nat.xor_lt_two_pow (by omega) (by omega)
 have h2:x ^^^ y<2^32:=Nat.xor_lt_two_pow (by omega) (by omega)
 have h3:(4294967295 ^^^ (x ^^^ y))<2^32:=Nat.xor_lt_two_pow (by omega) h2
 have h4:(4294967295 ^^^ x) &&& y<2^32:=Nat.and_lt_two_pow _ (by omega)
 have h5:(4294967295 ^^^ (x ^^^ y)) &&& d<2^32:=Nat.and_lt_two_pow _ (by omega)
 rw [w1,w2,HD _ _ (by omega) hx,Jt _ _ h1 hy,HD _ _ hx hy,HD _ _ (by omega) h2,Jt _ _ h3 hd',Sm _ _ h4 h5,fk]
 have e:(2:Nat)^31=2147483648:=by decide
 rw [e,FI x y c hx hy hc hd]
 refine ⟨d,_,rfl,hd',?_,?_⟩
 ·split<;>omega
 ·split<;>omega
theorem HZ {V:View}(hi lo y:Nat)(hh:hi<y)(hl:lo<4294967296)(hy:y<4294967296) :
  ab prog 161 #[.int .u32 (hi:Int),.int .u32 (lo:Int),.int .u32 (y:Int)] V fun r V'=>r=.tuple #[.int .u32 (((hi*4294967296+lo) / y:Nat):Int),.int .u32 (((hi*4294967296+lo)%y:Nat):Int)]:=by
 have key:∀V1:View,Value.tuple #[.int .u32 (u32.wrap (u64.wrap ((aS .or .u64 (u64.wrap ((u64.wrap (hi:Int))*2^32)) (u64.wrap (lo:Int))).tdiv (u64.wrap (y:Int))))),.int .u32 (u32.wrap ((aS .or .u64 (u64.wrap ((u64.wrap (hi:Int))*2^32)) (u64.wrap (lo:Int))).tmod (u64.wrap (y:Int))))]=.tuple #[.int .u32 (((hi*4294967296+lo) / y:Nat):Int),.int .u32 (((hi*4294967296+lo)%y:Nat):Int)]:=by
  intro _
  have e3:((2:Int)^32)=4294967296:=by decide
  have e1:u64.wrap (hi:Int)=hi:=aL (by omega)
  have e2:u64.wrap (lo:Int)=lo:=aL (by omega)
  have e4:u64.wrap (y:Int)=y:=aL (by omega)
  have e5:u64.wrap ((hi:Int)*4294967296)=(hi:Int)*4294967296:=aL (by omega)
  rw [e1,e3,e5,e2,e4,Bv _ _ (by omega) hl]
  have e6:(hi:Int)*4294967296+lo=((hi*4294967296+lo:Nat):Int):=by omega
  rw [e6,←Int.ofNat_tdiv,←Int.ofNat_tmod]
  have hq:(hi*4294967296+lo) / y<4294967296:=by
   rw [Nat.div_lt_iff_lt_mul (by omega)]
   have:(hi+1)*4294967296<=y*4294967296:=Nat.mul_le_mul_right _ hh
   omega
  have hr:(hi*4294967296+lo)%y<y:=Nat.mod_lt _ (by omega)
  generalize (hi*4294967296+lo) / y=q at *
  generalize (hi*4294967296+lo)%y=r at *
  have e7:u64.wrap (q:Int)=q:=aL (by omega)
  have e8:u32.wrap (q:Int)=q:=qt (by omega)
  have e9:u32.wrap (r:Int)=r:=qt (by omega)
  rw [e7,e8,e9]
 have e4:u64.wrap (y:Int)=y:=aL (by omega)
 refine oV _ _ _ V _ ⟨fun _=>⟨fun h=>?_,fun _=>⟨by omega,by rw [e4];omega,by rw [e4];omega,fun V1 l1=>key V1⟩⟩,fun _=>⟨by omega,by rw [e4];omega,by rw [e4];omega,fun V1 l1=>key V1⟩⟩
 simp at h;omega
theorem aW {V:View}{p:OA}{n c:Nat}{ds:List Nat}(h:RD V p n c ds)(hm:ds.length<=4611686018427387904) :
  ab prog 231 #[.slice p n c] V fun r V'=>∃k,r=.slice p k c/\RD V' p k c (b_ ds):=by
 refine B6 p n c V _ ?_
 refine ⟨fun z V'=>z.1=p/\z.2.2=c/\z.2.1<=ds.length/\b_ (ds.take z.2.1)=b_ ds/\RD V' p z.2.1 c (ds.take z.2.1),fun z=>z.2.1,⟨(p,n,c),⟨rfl,rfl,rfl⟩,rfl,rfl,?_⟩,?_⟩
 ·have:=h.len;subst this;simp;exact h
 ·rintro ⟨q,k,c'⟩ V1 l1 ⟨rfl,rfl,hk,ht,hR⟩
  dsimp only at hk ht hR ⊢
  refine ⟨rfl,fun h0=>?_,fun h0=>?_⟩
  ·have h0:0<k:=by simpa using h0
   simp (disch:=omega) only [ar]
   have hl:(ds.take k).length=k:=by simp;omega
   have hs:ds.take k=ds.take (k-1)++[ds[k-1]]:=by rw [←List.take_succ_eq_append_getElem (by omega),Nat.sub_add_cancel h0]
   refine hR.rd (k-1) (by omega) (by omega) ⟨fun hz=>?_,fun hz=>?_⟩
   ·have hz:ds[k-1]=0:=by simpa using hz
    refine ⟨⟨by omega,by have:=hR.cap;omega⟩,(q,k-1,c'),by dsimp only;omega,⟨rfl,by dsimp only;omega,rfl⟩,rfl,rfl,by dsimp only;omega,?_,?_⟩
    ·dsimp only
     rw [←ht,hs,hz,gT]
    ·have:=hR.take (k:=k-1) (by omega)
     dsimp only
     rwa [List.take_take,Nat.min_eq_left (by omega)] at this
   ·have hz:ds[k-1]≠0:=by simpa using hz
    refine fun V2 l2=>⟨k,rfl,?_⟩
    rw [←ht,hs,oR _ _ hz,←hs]
    exact hR.le l2
  ·have h0:k=0:=by simpa using h0
   subst h0
   refine fun V2 l2=>⟨0,rfl,?_⟩
   rw [←ht]
   exact hR.le l2
theorem mj {V:View}{p:OA}{n c:Nat}{ds:List Nat}(h:RD V p n c ds)(hm:ds.length<=1099511627776) :
  ab prog 233 #[.slice p n c] V fun r V'=>∃q k c',r=.slice q k c'/\RD V' q k c' ds:=by
 have hl:=h.len
 refine tm p n c V _ ⟨fun h0 V1 l1=>⟨_,_,_,rfl,?_⟩,fun h0=>⟨aF ds,h.sl,by simp [hl],by omega,by omega,by simp,by simp [hl],?_,?_⟩⟩
 ·have h0:p=none:=by simpa using h0
  subst h0
  have:ds=[]:=by
   rcases Nat.eq_zero_or_pos ds.length with e|e
   ·exact List.length_eq_zero_iff.1 e
   ·obtain ⟨ad,e,-⟩:=h.sl 0 _ (fq e)
    cases e
  subst this;exact RD.nil
 ·intro v hv
  simp only [aF,List.mem_map] at hv
  obtain ⟨d,-,rfl⟩:=hv
  rfl
 ·intro bk J sp c' h1 h2 V1 l1 b hb
  refine ⟨_,_,_,rfl,?_⟩
  simp only [Nat.zero_add,Nat.zero_mul,List.take_zero,List.nil_append] at hb h1 ⊢
  exact ⟨hl,h1,fun i v hv=>⟨_,rfl,by rw [add_zero'];exact cU hb (by rw [List.getElem?_append_left (by rcases Nat.lt_or_ge i (aF ds).length with e|e;exact e;rw [List.getElem?_eq_none e] at hv;cases hv)];exact hv)⟩,h.eI,fun e=>nomatch e⟩
abbrev RN (V:View)(p:OA)(n c:Nat)(x:Nat):Prop:=RD V p n c (ai x)
theorem iK {V:View}{p:OA}{n c:Nat}{ds:List Nat}(h:RD V p n c ds)(hm:ds.length<=1099511627776) :
  ab prog 196 #[.slice p n c] V fun r V'=>∃q k c',r=.slice q k c'/\RN V' q k c' (val ds):=by
 refine B2 p n c V _ fun V1 l1=>(aW (h.le l1) (by omega)).mono ?_
 rintro r V2 l2 ⟨k,rfl,h2⟩
 refine ⟨_,_,_,rfl,fun V3 l3=>(mj (h2.le l3) (by have:=kC ds;omega)).mono ?_⟩
 rintro r V4 l4 ⟨q,k',c',rfl,h4⟩
 refine ⟨_,_,_,rfl,fun V5 l5=>⟨_,_,_,rfl,?_⟩⟩
 unfold RN
 rw [←aR h.eI]
 exact h4.le l5
theorem yW {V:View}{p:OA}{n c:Nat}{ds:List Nat}(h:RD V p n c ds)(hm:ds.length<=1099511627776) :
  ab prog 207 #[.slice p n c] V fun r V'=>r=.bool (decide (ai (val ds)=ds)):=by
 have hl:=h.len
 refine xi p n c V _ ⟨fun h0 V1 l1=>?_,fun h0=>?_⟩
 ·have:ds=[]:=List.length_eq_zero_iff.1 (by simp at h0;omega)
  subst this;rfl
 ·have h0:0<n:=by simp at h0;omega
  simp (disch:=omega) only [ar]
  refine h.rd (n-1) (by omega) (by omega) fun V1 l1=>?_
  congr 1
  rw [Bool.eq_iff_iff]
  simp only [bne_iff_ne,ne_eq,decide_eq_true_eq]
  subst hl
  constructor
  ·intro hz
   exact ur h.eI (Bs fun _=>by simpa using hz)
  ·intro he hz
   have:sB ds:=by rw [←he];exact iU _
   exact this.last (by omega) (by simpa using hz)
theorem dE {V:View}(u:Int)(h0:0<=u)(h1:u<18446744073709551616) :
  ab prog 221 #[.int .u64 u] V fun r V'=>∃q k c',r=.slice q k c'/\RN V' q k c' u.toNat:=by
 obtain ⟨u,rfl⟩:=Int.eq_ofNat_of_zero_le h0
 refine sW _ V _ ⟨by omega,fun V1 l1 bk hb=>?_⟩
 rw [lN,ic,qt (by omega)] at hb
 have hb:V1.bE bk (.cells (aF [u%4294967296,u / 4294967296]).toArray 186 (0,0)):=by
  simpa [aF] using hb
 have hd:bV [u%4294967296,u / 4294967296]:=by simp [bV];omega
 refine (aW (RD.bE hb hd (n:=2) (c:=2) rfl (Nat.le_refl _)) (by simp)).mono ?_
 rintro r V2 l2 ⟨k,rfl,h2⟩
 refine ⟨_,_,_,rfl,fun _ V3 l3=>⟨_,_,_,rfl,?_⟩⟩
 rw [aR hd] at h2
 have:val [u%4294967296,u / 4294967296]=(u:Int).toNat:=by simp;omega
 rw [this] at h2
 exact h2.le l3
theorem xP {V:View}{p q:OA}{n c m e:Nat}{xa xb:List Nat}(ha:RD V p n c xa)(hb:RD V q m e xb)(hm:xa.length<=1099511627776)(hn:xb.length<=1099511627776) :
  ab prog 232 #[.slice p n c,.slice q m e] V fun r V'=>r=.int .i64 (kk (val xa) (val xb)):=by
 have la:=kC xa
 have lb:=kC xb
 refine Dv p n c q m e V _ fun V1 l1=>(aW (ha.le l1) (by omega)).mono ?_
 rintro r V2 l2 ⟨n,rfl,h1⟩
 refine ⟨_,_,_,rfl,fun V3 l3=>(aW (hb.le (l1.trans (l2.trans l3))) (by omega)).mono ?_⟩
 rintro r V4 l4 ⟨m,rfl,h2⟩
 refine ⟨_,_,_,rfl,?_⟩
 replace h1:=h1.le (l3.trans l4)
 rw [aR ha.eI] at h1 la
 rw [aR hb.eI] at h2 lb
 generalize val xa=x at *
 generalize val xb=y at *
 have hl1:=h1.len
 have hl2:=h2.len
 refine ⟨fun h0=>⟨fun h3 V5 l5=>?_,fun h3 V5 l5=>?_⟩,fun h0=>?_⟩
 ·have:=kt (a:=x) (b:=y) (by simp at h3;omega)
  rw [kk,if_pos this]
 ·have:=kt (a:=y) (b:=x) (by simp at h0 h3;omega)
  rw [kk,if_neg (by omega),if_pos this]
 ·have h0:n=m:=by simp at h0;omega
  subst h0
  simp (disch:=omega) only [ar]
  refine ⟨fun z V'=>-1<=z/\z<n/\(ai x).drop (z+1).toNat=(ai y).drop (z+1).toNat,fun z=>(z+1).toNat,⟨_,by (try dsimp only);and_intros<;>trivial,by (try dsimp only);omega,by (try dsimp only);omega,?_⟩,?_⟩
  ·(try dsimp only)
   rw [List.drop_of_length_le (by omega),List.drop_of_length_le (by omega)]
  ·rintro i V7 l7 ⟨hi0,hi1,hd⟩
   dsimp only at hi0 hi1 hd ⊢
   refine ⟨by trivial,fun h3=>?_,fun h3 V5 l5=>?_⟩
   ·have h3:0<=i:=by simpa using h3
    obtain ⟨i,rfl⟩:=Int.eq_ofNat_of_zero_le h3
    simp (disch:=omega) only [ar]
    have hd':(ai x).drop (i+1)=(ai y).drop (i+1):=hd
    refine (h1.le l7).rd i rfl (by omega) ((h2.le l7).rd i rfl (by omega) ⟨fun h4 V8 l8=>?_,fun h4=>?_⟩)
    ·have:=jz (aE x) (by omega) (by omega) hd' (by simpa using h4)
     rw [ag,ag] at this
     rw [kk,if_pos this]
    ·refine (h1.le l7).rd i rfl (by omega) ((h2.le l7).rd i rfl (by omega) ⟨fun h5 V8 l8=>?_,fun h5=>?_⟩)
     ·have:=jz (aE y) (by omega) (by omega) hd'.symm (by simpa using h5)
      rw [ag,ag] at this
      rw [kk,if_neg (by omega),if_pos this]
     ·refine ⟨_,?_,by (try dsimp only);and_intros<;>trivial,?_,?_,?_⟩
      ·(try dsimp only);omega
      ·(try dsimp only);omega
      ·(try dsimp only);omega
      ·(try dsimp only)
       have:((i:Int)-1+1).toNat=i:=by omega
       rw [this,List.drop_eq_getElem_cons (by omega),List.drop_eq_getElem_cons (l:=ai y) (by omega),hd']
       congr 1
       simp at h4 h5
       omega
   ·have h3:i=-1:=by simp at h3;omega
    subst h3
    have:ai x=ai y:=by simpa using hd
    have:=uq this
    subst this
    simp [kk]
theorem tO {E A B c d x y W:Nat}(h:E+W*c=A+B)(hd:d=c+x+y):E+W*(d%4294967296)+W*4294967296*(d / 4294967296)=A+W*x+(B+W*y):=by
 have h1:W*(d%4294967296)+W*4294967296*(d / 4294967296)=W*d:=by
  rw [Nat.mul_assoc,←Nat.mul_add,Nat.mod_add_div]
 rw [Nat.add_assoc,h1,hd,Nat.mul_add,Nat.mul_add]
 omega
theorem EC {V:View}{p q:OA}{n c m e:Nat}{xa xb:List Nat}(ha:RD V p n c xa)(hb:RD V q m e xb)(hm:xa.length<=1099511627776)(hn:xb.length<=1099511627776) :
  ab prog 238 #[.slice p n c,.slice q m e] V fun r V'=>∃p' n' c',r=.slice p' n' c'/\RN V' p' n' c' (val xa+val xb):=by
 have hla:=ha.len
 have hlb:=hb.len
 refine Du p n c q m e V _ ⟨fun z V'=>∃xs ys,RD V' z.1 z.2.1 z.2.2.1 xs/\RD V' z.2.2.2.1 z.2.2.2.2.1 z.2.2.2.2.2 ys/\ys.length<=xs.length/\xs.length<=1099511627776/\val xs+val ys=val xa+val xb,⟨fun h0=>?_,fun h0=>?_⟩,?_⟩
 ·exact ⟨(_,_,_,_,_,_),by (try dsimp only);and_intros<;>trivial,xb,xa,hb,ha,by simp at h0;omega,hn,by omega⟩
 ·exact ⟨(_,_,_,_,_,_),by (try dsimp only);and_intros<;>trivial,xa,xb,ha,hb,by simp at h0;omega,hm,rfl⟩
 ·rintro ⟨p,n,c,q,m,e⟩ V1 l1 ⟨xs,ys,hx,hy,hl,hm,hv⟩
  dsimp only at hx hy ⊢
  rw [←hv]
  clear hv ha hb hla hlb
  have hlx:=hx.len
  have Ap:=hy.len
  simp (disch:=omega) only [ar,cH]
  have hn1:((n:Int)+1).toNat=n+1:=by omega
  rw [hn1]
  refine ⟨by trivial,by omega,by omega,by omega,fun z V'=>0<=z.1/\z.1<=1/\0<=z.2.1/\z.2.1<=n/\∃es:List Nat,z.2.2=aF es/\es.length=n+1/\bV es /\
   val (es.take z.2.1.toNat)+4294967296^z.2.1.toNat*z.1.toNat=val (xs.take z.2.1.toNat)+val (ys.take z.2.1.toNat),fun z=>n-z.2.1.toNat,⟨(0,0,aF (List.replicate (n+1) 0)),by (try dsimp only);and_intros<;>trivial,by (try dsimp only);omega,by (try dsimp only);omega,by (try dsimp only);omega,by (try dsimp only);omega,_,rfl,by simp,bV.rep _,by simp⟩,?_⟩
  rintro ⟨cy,i,vs⟩ V2 l2 ⟨hc0,hc1,hi0,hi1,es,rfl,hes,hde,hv⟩
  dsimp only at hc0 hc1 hi0 hi1 hv ⊢
  obtain ⟨i,rfl⟩:=Int.eq_ofNat_of_zero_le hi0
  obtain ⟨cy,rfl⟩:=Int.eq_ofNat_of_zero_le hc0
  simp only [Int.toNat_natCast] at hv
  refine ⟨by trivial,fun h3=>?_,fun h3=>?_⟩
  ·have h3:i<n:=by simpa using h3
   refine (hx.le l2).rd i rfl (by omega) ?_
   have yh:=hx.eI.get (i:=i) (by omega)
   have next:∀d:Nat,d<8589934592->val (es.take i)+4294967296^i*(d%4294967296)+4294967296^i*4294967296*(d / 4294967296)=val (xs.take (i+1))+val (ys.take (i+1)) ->
     ∃es':List Nat,(aF es).set i (.int .u32 ((d%4294967296:Nat):Int))=aF es'/\es'.length=n+1/\bV es' /\
     val (es'.take (i+1))+4294967296^(i+1)*(d / 4294967296)=val (xs.take (i+1))+val (ys.take (i+1)):=by
    intro d hd he
    refine ⟨es.set i (d%4294967296),bq _ _ _,by simpa using hes,hde.set _ _ (by omega),?_⟩
    rw [aM _ _ _ (by omega),Nat.pow_succ]
    exact he
   refine ⟨fun h4=>?_,fun h4=>?_⟩
   ·have h4:i<m:=by simpa using h4
    refine (hy.le l2).rd i rfl (by omega) ?_
    have hdy:=hy.eI.get (i:=i) (by omega)
    simp (disch:=omega) only [aL,ar,ic,lN]
    refine ⟨⟨by omega,by omega⟩,by simp;omega,by omega,(_,_,_),?_,by (try dsimp only);and_intros<;>trivial,?_⟩
    ·(try dsimp only);omega
    ·(try dsimp only)
     have hi2:((i:Int)+1).toNat=i+1:=by omega
     obtain ⟨es',e1,e2,e3,e4⟩:=next (cy+xs[i]+ys[i]) (by omega) (by rw [aA _ _ (by omega),aA _ _ (by omega)];exact tO hv rfl)
     refine ⟨by omega,by omega,by omega,by omega,es',?_,e2,e3,?_⟩
     ·rw [←e1];simp
     ·rw [hi2,←e4];congr 2
   ·have h4:m<=i:=by simpa using h4
    simp (disch:=omega) only [aL,ar,ic,lN]
    refine ⟨⟨by omega,by omega⟩,by simp;omega,by omega,(_,_,_),?_,by (try dsimp only);and_intros<;>trivial,?_⟩
    ·(try dsimp only);omega
    ·(try dsimp only)
     have hi2:((i:Int)+1).toNat=i+1:=by omega
     obtain ⟨es',e1,e2,e3,e4⟩:=next (cy+xs[i]) (by omega) (by
      rw [aA _ _ (by omega),aq (ds:=ys) (i:=i+1) (by omega)]
      have:=tO (y:=0) hv (d:=cy+xs[i]) rfl
      rwa [aq (ds:=ys) (by omega),Nat.mul_zero,Nat.add_zero] at this)
     refine ⟨by omega,by omega,by omega,by omega,es',?_,e2,e3,?_⟩
     ·rw [←e1];simp
     ·rw [hi2,←e4];congr 2
  ·have h3:i=n:=by simp at h3;omega
   subst h3
   simp (disch:=omega) only [qt]
   refine ⟨⟨by omega,by omega⟩,by simp;omega,fun V3 l3 bk hb=>?_⟩
   have e1:(aF es).set (0+((i:Int).toNat)*1) (.int .u32 (cy:Int))=aF (es.set i cy):=by rw [←bq];simp
   rw [e1] at hb
   have hd2:=hde.set i cy (by omega)
   refine (aW (RD.bE hb hd2 (n:=i+1) (c:=i+1) (by simp;omega) (Nat.le_refl _)) (by simp;omega)).mono ?_
   rintro r V4 l4 ⟨k,rfl,h4⟩
   refine ⟨_,_,_,rfl,fun _ V5 l5=>⟨_,_,_,rfl,?_⟩⟩
   rw [aR hd2] at h4
   have e2:val (es.set i cy)=val xs+val ys:=by
    have:=aM es i cy (by omega)
    rw [aq (by simp;omega)] at this
    rw [this,hv,aq (by omega),aq (by omega)]
   rw [e2] at h4
   exact h4.le l5
theorem Hq {E A B c x y W:Nat}(h:E+B=A+W*c){v:Int}(hc:c<=1)(hx:x<4294967296)(hy:y<4294967296)(hv:v=((x:Int)-(c+y))%18446744073709551616) :
  0<=v/\v / 9223372036854775808<=1/\0<=v / 9223372036854775808/\E+W*(v%4294967296).toNat+(B+W*y)=A+W*x+W*4294967296*(v / 9223372036854775808).toNat:=by
 rcases Nat.lt_or_ge x (c+y) with hl|hl
 ·have e1:v=18446744073709551616+(x:Int)-(c+y):=by omega
  have e2:(v / 9223372036854775808).toNat=1:=by omega
  have e3:(v%4294967296).toNat+(c+y)=x+4294967296:=by omega
  refine ⟨by omega,by omega,by omega,?_⟩
  rw [e2,Nat.mul_one]
  have:=congrArg (W*·) e3
  simp only [Nat.mul_add] at this
  omega
 ·have e1:v=(x:Int)-(c+y):=by omega
  have e2:(v / 9223372036854775808).toNat=0:=by omega
  have e3:(v%4294967296).toNat+(c+y)=x:=by omega
  refine ⟨by omega,by omega,by omega,?_⟩
  rw [e2,Nat.mul_zero,Nat.add_zero]
  have:=congrArg (W*·) e3
  simp only [Nat.mul_add] at this
  omega
theorem CD {V:View}{p q:OA}{n c m e:Nat}{xs ys:List Nat}(hx:RD V p n c xs)(hy:RD V q m e ys)(hm:xs.length<=1099511627776)(hl:ys.length<=xs.length)(hle:val ys<=val xs) :
  ab prog 250 #[.slice p n c,.slice q m e] V fun r V'=>∃p' n' c',r=.slice p' n' c'/\RN V' p' n' c' (val xs-val ys):=by
 have hlx:=hx.len
 have Ap:=hy.len
 refine B4 p n c q m e V _ ⟨by omega,by omega,by omega,fun z V'=>0<=z.1/\z.1<=1/\0<=z.2.1/\z.2.1<=n/\∃es:List Nat,z.2.2=aF es/\es.length=n/\bV es /\
   val (es.take z.2.1.toNat)+val (ys.take z.2.1.toNat)=val (xs.take z.2.1.toNat)+4294967296^z.2.1.toNat*z.1.toNat,fun z=>n-z.2.1.toNat,
   ⟨(0,0,List.replicate n (.int .u32 0)),by (try dsimp only);and_intros<;>trivial,by (try dsimp only);omega,by (try dsimp only);omega,by (try dsimp only);omega,by (try dsimp only);omega,List.replicate n 0,cH n,by simp,bV.rep _,by simp⟩,?_⟩
 rintro ⟨cy,i,vs⟩ V2 l2 ⟨hc0,hc1,hi0,hi1,es,rfl,hes,hde,hv⟩
 dsimp only at hc0 hc1 hi0 hi1 hv ⊢
 obtain ⟨i,rfl⟩:=Int.eq_ofNat_of_zero_le hi0
 obtain ⟨cy,rfl⟩:=Int.eq_ofNat_of_zero_le hc0
 simp only [Int.toNat_natCast] at hv
 refine ⟨by trivial,fun h3=>?_,fun h3=>?_⟩
 ·have h3:i<n:=by simpa using h3
  refine (hx.le l2).rd i rfl (by omega) ?_
  have yh:=hx.eI.get (i:=i) (by omega)
  refine ⟨fun z V'=>∃y:Nat,z=cy+y/\y<4294967296/\val (ys.take (i+1))=val (ys.take i)+4294967296^i*y,⟨fun h4=>?_,fun h4=>?_⟩,?_⟩
  ·have h4:i<m:=by simpa using h4
   refine (hy.le l2).rd i rfl (by omega) ?_
   have hdy:=hy.eI.get (i:=i) (by omega)
   simp (disch:=omega) only [aL]
   exact ⟨_,by (try dsimp only);and_intros<;>trivial,ys[i],rfl,hdy,aA _ _ (by omega)⟩
  ·have h4:m<=i:=by simpa using h4
   exact ⟨_,by (try dsimp only);and_intros<;>trivial,0,by simp,by omega,by rw [aq (by omega),aq (by omega)];simp⟩
  ·rintro t V3 l3 ⟨y,rfl,hdy,hy'⟩
   refine ⟨by trivial,⟨by omega,by simpa using h3⟩,by simp;omega,by omega,?_⟩
   simp (disch:=omega) only [aL,ar,rC,ic,Hm]
   obtain ⟨v,pf⟩:∃v:Int,v=((xs[i]:Int)-((cy:Int)+(y:Int)))%18446744073709551616:=⟨_,rfl⟩
   obtain ⟨g1,g2,g3,g4⟩:=Hq hv (by omega) yh hdy pf
   rw [←pf]
   refine ⟨(_,_,_),?_,by (try dsimp only);and_intros<;>trivial,?_⟩
   ·(try dsimp only);omega
   ·(try dsimp only)
    have hi2:((i:Int)+1).toNat=i+1:=by omega
    refine ⟨g3,g2,by omega,by omega,es.set i (v%4294967296).toNat,?_,by simpa using hes,hde.set _ _ (by omega),?_⟩
    ·rw [←bq]
     congr 2
     ·simp
     ·omega
    ·rw [hi2,aM _ _ _ (by omega),hy',g4,aA _ _ (by omega),Nat.pow_succ]
 ·have h3:i=n:=by simp at h3;omega
  subst h3
  intro V3 l3 bk hb
  refine (aW (RD.bE hb hde (n:=i) (c:=i) hes.symm (Nat.le_refl _)) (by omega)).mono ?_
  rintro r V4 l4 ⟨k,rfl,h4⟩
  refine ⟨_,_,_,rfl,fun _ V5 l5=>⟨_,_,_,rfl,?_⟩⟩
  rw [aR hde] at h4
  rw [aq (by omega),aq (by omega),aq (by omega)] at hv
  have e1:=fu hde
  rw [hes] at e1
  have e2:cy=0:=by
   rcases Nat.eq_zero_or_pos cy with h|h
   ·exact h
   ·have:4294967296^i*1<=4294967296^i*cy:=Nat.mul_le_mul_left _ h
    omega
  subst e2
  rw [show val es=val xs-val ys from by omega] at h4
  exact h4.le l5
theorem fh {a b:Nat}:kk a b<0↔a<b:=by
 unfold kk
 split
 ·simp;omega
 ·split<;>simp<;>omega
theorem km {a b:Nat}:kk a b=0↔a=b:=by
 unfold kk
 split
 ·simp;omega
 ·split
  ·simp;omega
  ·simp;omega
theorem xS {V:View}{p q:OA}{n c m e:Nat}{xa xb:List Nat}(ha:RD V p n c xa)(hb:RD V q m e xb)(hm:xa.length<=1099511627776)(hn:xb.length<=1099511627776) :
  ab prog 239 #[.slice p n c,.slice q m e] V fun r V'=>∃p' n' c',r=.tuple #[.slice p' n' c',.bool (decide (val xb<=val xa))]/\RN V' p' n' c' (val xa-val xb):=by
 refine DA p n c q m e V _ fun V1 l1=>(xP (ha.le l1) (hb.le l1) hm hn).mono ?_
 rintro r V2 l2 rfl
 refine ⟨_,rfl,fun h0 V3 l3=>?_,fun h0 V3 l3=>?_⟩
 ·have h0:val xa<val xb:=by simpa [fh] using h0
  rw [Nat.sub_eq_zero_of_le (by omega),decide_eq_false (by omega)]
  exact ⟨_,_,_,rfl,RD.nil⟩
 ·have h0:val xb<=val xa:=by simpa [←Int.not_lt,fh] using h0
  rw [decide_eq_true h0]
  refine (aW ((ha.le l1).le (l2.trans l3)) (by omega)).mono ?_
  rintro r V4 l4 ⟨n1,rfl,h1⟩
  refine ⟨_,_,_,rfl,fun V5 l5=>(aW ((hb.le l1).le (l2.trans (l3.trans (l4.trans l5)))) (by omega)).mono ?_⟩
  rintro r V6 l6 ⟨n2,rfl,h2⟩
  rw [aR ha.eI] at h1
  rw [aR hb.eI] at h2
  have:=bw ha.eI
  refine ⟨_,_,_,rfl,fun V7 l7=>(CD (h1.le (l5.trans (l6.trans l7))) (h2.le l7) (by omega) (aI h0) (by rw [ag,ag];exact h0)).mono ?_⟩
  rintro r V8 l8 ⟨p',n',c',rfl,h3⟩
  rw [ag,ag] at h3
  exact ⟨_,_,_,rfl,fun V9 l9=>⟨_,_,_,rfl,h3.le l9⟩⟩
end Go.Proofs.Tryz
