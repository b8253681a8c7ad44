import Derived.Test.YtnnbfoejafcdlaaGreatDoorD5
import Derived.Test.YtnnbfoejafcdlaaGreatDoorCards
import Derived.Test.YtnnbfoejafcdlaaGreatDoorTie
import Derived.WalkKit
import Derived.ProofKit
import Derived.OpenShut
import Derived.Deep.DeepHandedRow
import Derived.LaidLaws
import Derived.Lay
import Derived.Carry
import Derived.LaidEql
import Derived.Stop.Asserts
import Derived.RowKitTokens
import Derived.IntWalk
import Derived.Test.YtnnbfoejafcdlaaGreatDoorD6
set_option linter.unusedVariables false
open Go.IntKind (i64 u64 u32)
namespace Go.Proofs.YtnnbfoejafcdlaaGreatDoor
open Go.ChangeShapes Go.WideShapes Go.ChangeAt Go.RowKit Go.bF
theorem own:ownKnob Tryz.prog.godebug=none:=by kernel_rfl
theorem star : "*" ++ "errors.errorString" = "*errors.errorString" := by decide
theorem Sn (u : TypeId)(h : Tryz.prog.typeName? 3 u = some "*errors.errorString") : u = 294 :=
 typeName_ptr_named (nm := "errors.errorString") (by rw [star]; kernel_rfl) (by kernel_rfl) (by decide) u (by rw [star]; exact h)
theorem Lh:Tryz.prog.cellsOf 319=1:=by kernel_rfl
theorem Li:Tryz.prog.cellsOf 9=1:=by kernel_rfl
theorem Sm (g:Nat):MemPlace.cell g 0∈MemPlace.row ⟨g,0,none⟩ 1:=by simp [MemPlace.row]
theorem KA {P:Program}{W:World}{name:String}{g:Nat}{v:Value}(hg:P.globalNamed name=some g)(h:W.var? P name=some #[v]):W.cell? ⟨g,0,none⟩=some v:=by simpa using World.var?_cell hg h 0
set_option maxRecDepth 100000 in
theorem kF {W:World}{l:List (String×DataW Unit)}{name:String}{text:List UInt8}{g:Nat}(hg:Tryz.prog.globalNamed name=some g)(hty:(Tryz.prog.globals[g]?).map (·.type)=some 47)
  (hm : (name, .iface "*errors.errorString" (.ptr (.agg [.lit (.string text)]))) ∈ l)(h : laidMet Tryz.prog l W) :
  ∃a,W.cell? ⟨g,0,none⟩=some (.iface 294 (.pointer (some a))):=by
 obtain ⟨ps,hv,-,hrows⟩:=h
 induction l generalizing ps with
 | nil=>cases hm
 | cons x r ih=>
  obtain ⟨n,d⟩:=x
  obtain ⟨g',t,cs,fuel,p,q,hg',Bm,hvar,hd,hr,rfl⟩:=hv
  rcases List.mem_cons.1 hm with e|hm
  ·cases e
   obtain rfl:=Option.some.inj (hg.symm.trans hg')
   obtain rfl:=Option.some.inj (hty.symm.trans Bm)
   obtain ⟨l0⟩:=cs
   have ok0:∀u v,l0=[.iface u v]->Value.okWide Tryz.prog W .any 0 u v:=fun u v e=>by
    subst e
    exact (hrows g 0 (List.mem_append_left _ (List.mem_append_left _ (Sm g)))).2 u v (KA hg hvar)
   obtain ⟨a,s,rfl,-⟩:=errorString_of_trod Tryz.underlying47 Sn Tryz.underlying294 Tryz.underlying319 rfl rfl Tryz.underlying9 Lh Li hd ok0
   exact ⟨a,KA hg hvar⟩
  ·exact ih hm q hr fun b off hb=>hrows b off (List.mem_append_right _ hb)
def View.all (W:World):View:=⟨W,fun _=>False,fun _=>False,fun _ h=>h.elim,fun _ h=>h⟩
theorem Bu {w w':World}(h:eA (fun _=>False) w w')(may:MemPlace->Prop):w.keptBut w' may:=by
 refine ⟨h.os,h.out,fun i hi=>?_⟩
 rw [h.bC i hi (fun h=>h)]
 cases w.heap[i]? with
 | none=>rfl
 | some o=>cases o<;>simp
theorem wc {f:FuncId}{args:Array Value}{W:World}{R:Value->Prop}(h:ab Tryz.prog f args (View.all W) fun r _=>R r):Calls Tryz.prog f args W fun e w'=>∃r,e=.returned r/\R r/\eA (fun _=>False) W w':=
 h.2.mono fun e w' ⟨r,he,hx,hr⟩=>⟨r,he,hr,hx⟩
theorem laidOut:laidOutB Tryz.prog=true:=by kernel_rfl
theorem yM {w w':World}(h:eA (fun _=>False) w w'):Below w.heap.size w w':=⟨h.os,h.tape,h.out,h.size,fun k hk=>h.bC k hk (fun h=>h)⟩
theorem Ff {P:Program}(hlo:laidOutB P=true){H:Type}{enc:TypeId×Value->H}{W W':World}(hb:Below W.heap.size W W')(ts:List TypeId):∀{vs:List Value} {ds:List (DataW H)} {ps:List MemPlace},
  (ts.all fun t=>P.readableRec t&&decide (t<P.types.size))=true->DataW.TrodAll enc P W 0 (fun _=>true) true ts vs ds ps->(∀x∈ps,x.block<W.heap.size) ->
   DataW.TrodAll enc P W' 0 (fun b=>decide (b<W.heap.size)) true ts vs ds ps:=by
 induction ts with
 | nil=>
  intro vs ds ps _ h _
  obtain ⟨rfl,rfl,rfl⟩:=trodAll_nil h
  exact trodAll_mk0
 | cons t ts ih=>
  intro vs ds ps ht h hlt
  obtain ⟨v,vs',d,ds',p,q,rfl,rfl,rfl,h1,h2⟩:=trodAll_cons h
  simp only [List.all_cons,Bool.and_eq_true,decide_eq_true_eq] at ht
  exact trodAll_cons_mk (Below.trod hlo ht.1.1 ht.1.2 h1 hb fun x hx=>hlt x (List.mem_append_left _ hx)) (ih ht.2 h2 fun x hx=>hlt x (List.mem_append_right _ hx))
set_option maxRecDepth 100000 in
theorem JP {H:Type}{enc:TypeId×Value->H}{Tn:FuncId}{f:Func}{s:ChangeSpec}{W:World}{args:Array Value}{ds gs:List (DataW H)}{before:List MemPlace}{fresh handsOn:Bool}
  (hW:DataW.Whole enc Tryz.prog f.params.toList s.vars false W args.toList ds gs before)(hvars:s.vars=[])(hts:(f.params.toList.all fun t=>Tryz.prog.readableRec t&&decide (t<Tryz.prog.types.size))=true)
  (hres:f.resultTypes=#[4])(hs:s.fn H (ds++gs)={ results:=[.lit (.bool true)],args:=ds })
  (h:ab Tryz.prog Tn args (View.all W) fun r _=>r=.bool true):Calls Tryz.prog Tn args W fun e W'=>∃v,e=.returned v/\s.post enc Tryz.prog f false fresh handsOn false W args v W':=by
 refine (wc h).mono fun e W' ⟨r,he,hr,hx⟩=>?_
 subst he hr
 have hW':=hW
 obtain ⟨p,q,hA,hV,rfl,-,-⟩:=hW
 rw [hvars] at hV
 obtain ⟨rfl,rfl⟩:=trodVars_none hV
 have hlt:∀x∈p++[],x.block<W.heap.size:=fun x hx=>hW'.lt x hx
 refine ⟨_,rfl,ds,_,p++[],[],p++[],[],hW',?_,?_,?_,Bu hx _,fun h=>nomatch h⟩
 ·rw [hs,hres]
  exact trodAll_cons_mk (shut_bool Tryz.underlying4 _) trodAll_mk0
 ·rw [hs,List.append_nil]
  exact Ff laidOut (yM hx) _ hts hA fun x hx=>hlt x (by rw [List.append_nil];exact hx)
 ·rw [hs,hvars]
  rfl
set_option maxRecDepth 100000 in
theorem BS {H:Type}{enc:TypeId×Value->H}{W:World}{p:OA}{n c:Nat}{d:DataW H}{ps:List MemPlace}
  (h:DataW.Trod enc Tryz.prog W 0 (fun _=>true) true 52 (.slice p n c) d ps):n<=c/\∀i,i<n->∃(a:Addr)(x:Int),ai p (i*1)=some a/\(View.all W).at a (.int .i64 x):=by
 obtain ⟨fuel,hf⟩:=h
 rcases open_ints Tryz.underlying52 Tryz.underlying3 (show Tryz.prog.cellsOf 3=1 by kernel_rfl) hf with ⟨hcs,-⟩|⟨a,len',cap',zs,hcs,_,hl,-,hz,-,hcell,-⟩
 ·simp [Value.cells] at hcs
  obtain ⟨rfl,rfl,rfl⟩:=hcs
  exact ⟨Nat.le_refl _,fun i hi=>absurd hi (by omega)⟩
 ·simp [Value.cells] at hcs
  obtain ⟨rfl,rfl,rfl⟩:=hcs
  simp only [if_true] at hz
  exact ⟨hl,fun i hi=>⟨a.add i,_,by rw [Nat.mul_one];rfl,fun h=>h,hcell i (by omega)⟩⟩
end Go.Proofs.YtnnbfoejafcdlaaGreatDoor
namespace Go.eK
def val:List Nat->Nat
 | []=>0
 | d::r=>d+4294967296*val r
def bP (ds:List Nat):Prop:=∀d∈ds,d<4294967296
def bV:List Nat->List Nat
 | []=>[]
 | d::r=>if bV r=[]/\d=0 then [] else d::bV r
def rD (ds:List Nat):Prop:=bV ds=ds
def tP:Nat->Nat->List Nat
 | 0,_=>[]
 | f+1,n=>if n=0 then [] else n%4294967296::tP f (n / 4294967296)
def ag (n:Nat):List Nat:=tP n n
@[simp] theorem d_:val []=0:=rfl
@[simp] theorem a_ (d:Nat)(r:List Nat):val (d::r)=d+4294967296*val r:=rfl
theorem bP.nil:bP []:=fun _ h=>nomatch h
theorem bP.cons {d:Nat}{r:List Nat}:bP (d::r)↔d<4294967296/\bP r:=by simp [bP]
theorem bP.append {a b:List Nat}:bP (a++b)↔bP a/\bP b:=by simp [bP,or_imp,forall_and]
theorem bP.take {a:List Nat}(h:bP a)(k:Nat):bP (a.take k):=fun d hd=>h d (List.mem_of_mem_take hd)
theorem bP.drop {a:List Nat}(h:bP a)(k:Nat):bP (a.drop k):=fun d hd=>h d (List.mem_of_mem_drop hd)
theorem bP.set {a:List Nat}(h:bP a)(k x:Nat)(hx:x<4294967296):bP (a.set k x):=fun d hd=>by
 rcases List.mem_or_eq_of_mem_set hd with h'|h'
 ·exact h d h'
 ·exact h'▸hx
theorem bP.get {a:List Nat}(h:bP a){i:Nat}(hi:i<a.length):a[i]<4294967296:=h _ (List.getElem_mem hi)
theorem bP.rep (n:Nat):bP (List.replicate n 0):=fun d hd=>by rw [List.eq_of_mem_replicate hd];omega
theorem dq (a b:List Nat):val (a++b)=val a+4294967296^a.length*val b:=by
 induction a with
 | nil=>simp
 | cons d r ih=>simp only [List.cons_append,a_,ih,List.length_cons,Nat.pow_succ];grind
theorem fI {ds:List Nat}(h:bP ds):val ds<4294967296^ds.length:=by
 induction ds with
 | nil=>simp
 | cons d r ih=>
  have h':=bP.cons.1 h
  have:=ih h'.2
  have h1:=h'.1
  simp only [a_,List.length_cons,Nat.pow_succ]
  have h2:val r+1<=4294967296^r.length:=this
  have h3:=Nat.mul_le_mul_left 4294967296 h2
  omega
theorem sS (n:Nat):val (List.replicate n 0)=0:=by
 induction n with
 | zero=>rfl
 | succ n ih=>simp [List.replicate_succ,ih]
theorem ax (ds:List Nat)(i:Nat)(h:i<ds.length):val (ds.take (i+1))=val (ds.take i)+4294967296^i*ds[i]:=by
 rw [List.take_succ_eq_append_getElem h,dq]
 simp [List.length_take,Nat.min_eq_left (Nat.le_of_lt h)]
theorem ar {ds:List Nat}{i:Nat}(h:ds.length<=i):val (ds.take i)=val ds:=by rw [List.take_of_length_le h]
theorem wB (ds:List Nat)(i x:Nat)(h:i<ds.length):(ds.set i x).take (i+1)=ds.take i++[x]:=by
 rw [List.take_succ_eq_append_getElem (by simpa using h),List.take_set,List.set_eq_of_length_le (by simp;omega)]
 simp
theorem aK (ds:List Nat)(i x:Nat)(h:i<ds.length):val ((ds.set i x).take (i+1))=val (ds.take i)+4294967296^i*x:=by
 rw [wB ds i x h,dq]
 simp [List.length_take,Nat.min_eq_left (Nat.le_of_lt h)]
theorem gL (r:List Nat):bV (r++[0])=bV r:=by
 induction r with
 | nil=>simp [bV]
 | cons d r ih=>simp only [List.cons_append,bV,ih]
theorem nN (r:List Nat)(d:Nat)(h:d≠0):bV (r++[d])=r++[d]:=by
 induction r with
 | nil=>simp [bV,h]
 | cons x r ih=>simp [List.cons_append,bV,ih]
theorem Gi (ds:List Nat):val (bV ds)=val ds:=by
 induction ds with
 | nil=>rfl
 | cons d r ih=>
  simp only [bV]
  split
  ·rename_i h
   rw [a_,←ih,h.1,h.2];rfl
  ·simp [ih]
theorem jX (ds:List Nat):(bV ds).length<=ds.length:=by
 induction ds with
 | nil=>simp [bV]
 | cons d r ih=>simp only [bV];split<;>simp<;>omega
theorem Gg (ds:List Nat):bV ds=ds.take (bV ds).length:=by
 induction ds with
 | nil=>rfl
 | cons d r ih=>
  simp only [bV]
  split
  ·rfl
  ·simp only [List.length_cons,List.take_succ_cons];rw [←ih]
theorem bP.trim {ds:List Nat}(h:bP ds):bP (bV ds):=by rw [Gg];exact h.take _
theorem B6 (ds:List Nat):rD (bV ds):=by
 unfold rD
 induction ds with
 | nil=>rfl
 | cons d r ih=>
  rw [bV]
  split
  ·rfl
  ·rename_i h;rw [bV,ih,if_neg h]
theorem rD.tail {d:Nat}{r:List Nat}(h:rD (d::r)):rD r:=by
 unfold rD at h ⊢
 simp only [bV] at h
 split at h
 ·cases h
 ·injection h
theorem rD.zero {ds:List Nat}(h:rD ds)(hv:val ds=0):ds=[]:=by
 induction ds with
 | nil=>rfl
 | cons d r ih=>
  have hr:=ih h.tail (by simp at hv;omega)
  subst hr
  simp at hv;subst hv
  simp [rD,bV] at h
theorem oE:∀(f n:Nat),n<=f->val (tP f n)=n/\bP (tP f n)/\rD (tP f n)
 | 0,n,h=>⟨by simp [tP];omega,bP.nil,rfl⟩
 | f+1,n,h=>by
  simp only [tP]
  split
  ·subst_vars;exact ⟨rfl,bP.nil,rfl⟩
  ·obtain ⟨h1,h2,h3⟩:=oE f (n / 4294967296) (by omega)
   refine ⟨by rw [a_,h1];omega,bP.cons.2 ⟨by omega,h2⟩,?_⟩
   unfold rD at h3 ⊢
   rw [bV,h3,if_neg]
   rintro ⟨e1,e2⟩
   rw [e1] at h1
   simp at h1
   omega
theorem ae (n:Nat):val (ag n)=n:=(oE n n (Nat.le_refl _)).1
theorem aE (n:Nat):bP (ag n):=(oE n n (Nat.le_refl _)).2.1
theorem iC (n:Nat):rD (ag n):=(oE n n (Nat.le_refl _)).2.2
theorem rD.ext:∀{a b:List Nat},bP a->bP b->rD a->rD b->val a=val b->a=b
 | [],b,_,_,_,hb,h=>(hb.zero (by rw [←h];rfl)).symm
 | d::r,[],_,_,ha,_,h=>by have:=ha.zero h;cases this
 | d::r,e::s,ha,hb,na,nb,h=>by
  have h1:=(bP.cons.1 ha).1
  have h2:=(bP.cons.1 hb).1
  simp only [a_] at h
  have:val r=val s:=by omega
  have hrs:=rD.ext (bP.cons.1 ha).2 (bP.cons.1 hb).2 na.tail nb.tail this
  have:d=e:=by omega
  subst this;rw [hrs]
theorem tQ {ds:List Nat}(h:bP ds)(hn:rD ds):ag (val ds)=ds:=rD.ext (aE _) h (iC _) hn (ae _)
theorem aN {ds:List Nat}(h:bP ds):bV ds=ag (val ds):=by
 rw [←Gi,tQ h.trim (B6 _)]
theorem oF {a b:Nat}(h:ag a=ag b):a=b:=by rw [←ae a,h,ae]
@[simp] theorem xK:ag 0=[]:=rfl
theorem bq {n:Nat}:ag n=[]↔n=0:=⟨fun h=>oF (by rw [h];rfl),fun h=>h▸rfl⟩
theorem rD.last {ds:List Nat}(h:rD ds)(hl:0<ds.length):ds[ds.length-1]≠0:=by
 intro e
 have hs:ds=ds.take (ds.length-1)++[ds[ds.length-1]]:=by
  rw [←List.take_succ_eq_append_getElem (by omega),Nat.sub_add_cancel hl,List.take_length]
 rw [e] at hs
 have h2:bV ds=ds:=h
 rw [hs,gL] at h2
 have:=jX (ds.take (ds.length-1))
 rw [h2] at this
 simp at this
 omega
theorem BD {ds:List Nat}(h:∀hl:0<ds.length,ds[ds.length-1]≠0):rD ds:=by
 rcases Nat.eq_zero_or_pos ds.length with e|e
 ·rw [List.length_eq_zero_iff.1 e];rfl
 ·have hs:ds=ds.take (ds.length-1)++[ds[ds.length-1]]:=by
   rw [←List.take_succ_eq_append_getElem (by omega),Nat.sub_add_cancel e,List.take_length]
  have:=nN (ds.take (ds.length-1)) _ (h e)
  rw [←hs] at this
  exact this
theorem I0 {ds:List Nat}(h:rD ds)(hl:0<ds.length):4294967296^(ds.length-1)<=val ds:=by
 have hs:ds=ds.take (ds.length-1)++[ds[ds.length-1]]:=by
  rw [←List.take_succ_eq_append_getElem (by omega),Nat.sub_add_cancel hl,List.take_length]
 have h0:=h.last hl
 rw [hs,dq]
 simp only [a_,d_,List.length_take]
 rw [Nat.min_eq_left (by omega)]
 simp only [List.length_append,List.length_take,List.length_singleton]
 rw [Nat.min_eq_left (by omega),Nat.sub_add_cancel hl]
 have:4294967296^(ds.length-1)*1<=4294967296^(ds.length-1)*(ds[ds.length-1]+4294967296*0):=Nat.mul_le_mul_left _ (by omega)
 omega
theorem aF {n k:Nat}:(ag n).length<=k↔n<4294967296^k:=by
 constructor
 ·intro h
  have:=fI (aE n)
  rw [ae] at this
  exact Nat.lt_of_lt_of_le this (Nat.pow_le_pow_right (by omega) h)
 ·intro h
  rcases Nat.lt_or_ge k (ag n).length with h'|h'
  ·have:=I0 (iC n) (by omega)
   rw [ae] at this
   have h2:4294967296^k<=4294967296^((ag n).length-1):=Nat.pow_le_pow_right (by omega) (by omega)
   omega
  ·exact h'
theorem qS {n k:Nat}:k<(ag n).length↔4294967296^k<=n:=by
 have:=@aF n k
 omega
theorem fV (ds:List Nat)(i:Nat)(h:i<ds.length):val ds=val (ds.take i)+4294967296^i*(ds[i]+4294967296*val (ds.drop (i+1))):=by
 have h2:val ds=val (ds.take i++ds.drop i):=by rw [List.take_append_drop]
 rw [h2,dq,List.drop_eq_getElem_cons h]
 simp only [List.length_take,Nat.min_eq_left (Nat.le_of_lt h),a_]
theorem jg {a b:List Nat}{i:Nat}(ha:bP a)(hi:i<a.length)(hj:i<b.length)(hd:a.drop (i+1)=b.drop (i+1))(hl:a[i]<b[i]):val a<val b:=by
 rw [fV a i hi,fV b i hj,hd]
 have h1:=fI (ha.take i)
 simp only [List.length_take,Nat.min_eq_left (Nat.le_of_lt hi)] at h1
 have h2:4294967296^i*(a[i]+4294967296*val (b.drop (i+1))+1)<=4294967296^i*(b[i]+4294967296*val (b.drop (i+1))):=Nat.mul_le_mul_left _ (by omega)
 rw [Nat.mul_add,Nat.mul_one] at h2
 omega
theorem jP {a b:Nat}(h:(ag a).length<(ag b).length):a<b:=by
 have h1:=fI (aE a)
 have h2:=I0 (iC b) (by omega)
 rw [ae] at h1 h2
 have h3:4294967296^(ag a).length<=4294967296^((ag b).length-1):=Nat.pow_le_pow_right (by omega) (by omega)
 omega
def jI (a b:Nat):Int:=if a<b then -1 else if b<a then 1 else 0
theorem aH {a b:Nat}(h:a<=b):(ag a).length<=(ag b).length:=by
 rcases Nat.lt_or_ge (ag b).length (ag a).length with h'|h'
 ·have:=jP h';omega
 ·exact h'
theorem aZ {ds:List Nat}(h:bP ds):(ag (val ds)).length<=ds.length:=by rw [←aN h];exact jX ds
theorem Js {n:Nat}(h:n<4294967296)(h0:n≠0):ag n=[n]:=by
 have:rD [n]:=by simp [rD,bV,h0]
 have:=tQ (by simp [bP];exact h) this
 simpa using this
end Go.eK
namespace Go.Proofs.Tryz
open Go.eK
section
variable {α:Type}
structure Ord (c:α->α->Int):Prop where
 My:∀a b,c a b<0->¬c b a<0
 tr:∀a b d,¬c a b<0->¬c b d<0->¬c a d<0
variable {c:α->α->Int}
theorem Ord.le (h:Ord c){a b:α}(l:c a b<0):¬c b a<0:=h.My a b l
theorem Ord.refl (h:Ord c)(a:α):¬c a a<0:=fun l=>h.My a a l l
def rJ (d:α)(l:List α)(i j:Nat):List α:=(l.set i (l.getD j d)).set j (l.getD i d)
variable {d:α}
theorem zV {l:List α}{i j:Nat}:(rJ d l i j).length=l.length:=by simp [rJ]
theorem oJ {l:List α}{i k:Nat}{x:α}(hi:i<l.length):(l.set i x).getD k d=if k=i then x else l.getD k d:=by
 simp only [List.getD_eq_getElem?_getD,List.getElem?_set]
 by_cases h:k=i
 ·subst h;simp [hi]
 ·have:¬i=k:=fun e=>h e.symm
  simp [h,this]
theorem nI {l:List α}{i j k:Nat}(hi:i<l.length)(hj:j<l.length):(rJ d l i j).getD k d=if k=j then l.getD i d else if k=i then l.getD j d else l.getD k d:=by
 unfold rJ
 rw [oJ (by simpa using hj),oJ hi]
theorem IV {l:List α}{i j:Nat}(hi:i<l.length)(hj:j<l.length):(rJ d l i j).Perm l:=by
 have h:=Array.swap_perm (xs:=l.toArray) (i:=i) (j:=j) (by simpa using hi) (by simpa using hj)
 have e:(l.toArray.swap i j (by simpa using hi) (by simpa using hj)).toList=rJ d l i j:=by
  simp [Array.swap,rJ,List.getD_eq_getElem?_getD,hi,hj]
 have:=h.toList
 rw [e] at this
 simpa using this
structure qG (d:α) (l m:List α) (a b:Nat):Prop where
 len:m.length=l.length
 out:∀k,¬(a<=k/\k<b)->m.getD k d=l.getD k d
 mem:∀k,a<=k->k<b->∃k',a<=k'/\k'<b/\m.getD k d=l.getD k' d
 perm:m.Perm l
theorem qG.refl (l:List α)(a b:Nat):qG d l l a b:=⟨rfl,fun _ _=>rfl,fun k h h'=>⟨k,h,h',rfl⟩,.refl _⟩
theorem qG.trans {l m n:List α}{a b:Nat}(h:qG d l m a b)(g:qG d m n a b):qG d l n a b:=
 ⟨g.len.trans h.len,fun k hk=>(g.out k hk).trans (h.out k hk),fun k h1 h2=>by
  obtain ⟨k',h3,h4,e⟩:=g.mem k h1 h2
  obtain ⟨k'',h5,h6,e'⟩:=h.mem k' h3 h4
  exact ⟨k'',h5,h6,e.trans e'⟩,g.perm.trans h.perm⟩
theorem qG.wide {l m:List α}{a b a' b':Nat}(h:qG d l m a b)(ha:a'<=a)(hb:b<=b'):qG d l m a' b':=
 ⟨h.len,fun k hk=>h.out k (by omega),fun k h1 h2=>by
  by_cases hk:a<=k/\k<b
  ·obtain ⟨k',h3,h4,e⟩:=h.mem k hk.1 hk.2
   exact ⟨k',by omega,by omega,e⟩
  ·exact ⟨k,h1,h2,h.out k hk⟩,h.perm⟩
theorem qG.rJ {l:List α}{a b i j:Nat}(hi:a<=i)(hi':i<b)(hj:a<=j)(hj':j<b)(hb:b<=l.length):qG d l (rJ d l i j) a b:=by
 refine ⟨zV,fun k hk=>?_,fun k h1 h2=>?_,IV (by omega) (by omega)⟩
 ·rw [nI (by omega) (by omega),if_neg (by omega),if_neg (by omega)]
 ·rw [nI (by omega) (by omega)]
  split
  ·exact ⟨i,hi,hi',rfl⟩
  ·split
   ·exact ⟨j,hj,hj',rfl⟩
   ·exact ⟨k,h1,h2,rfl⟩
def vS (c:α->α->Int)(d:α)(l:List α)(a b:Nat):Prop:=∀p q,a<=p->p<q->q<b->¬c (l.getD q d) (l.getD p d)<0
theorem vS.short {l:List α}{a b:Nat}(h:b<=a+1):vS c d l a b:=fun p q h1 h2 h3=>by omega
theorem vS.step (ho:Ord c){l:List α}{a b:Nat}(h:vS c d l a b)(h0:a<b)(hb:¬c (l.getD b d) (l.getD (b-1) d)<0):vS c d l a (b+1):=by
 intro p q h1 h2 h3
 by_cases e:q=b
 ·subst e
  by_cases e':p=q-1
  ·subst e';exact hb
  ·exact ho.tr _ _ _ hb (h p (q-1) h1 (by omega) (by omega))
 ·exact h p q h1 h2 (by omega)
def K3 (c:α->α->Int)(d:α)(l:List α)(a i j:Nat):Prop:=∀p q,a<=p->p<q->q<=i->q≠j->¬c (l.getD q d) (l.getD p d)<0
theorem K3.start {l:List α}{a i:Nat}(h:vS c d l a i):K3 c d l a i i:=fun p q h1 h2 h3 h4=>h p q h1 h2 (by omega)
theorem K3.done (ho:Ord c){l:List α}{a i j:Nat}(h:K3 c d l a i j)(hji:j<=i)(hs:j<=a\/¬c (l.getD j d) (l.getD (j-1) d)<0):vS c d l a (i+1):=by
 intro p q h1 h2 h3
 by_cases e:q=j
 ·subst e
  rcases hs with hs|hs
  ·omega
  ·by_cases e':p=q-1
   ·subst e';exact hs
   ·exact ho.tr _ _ _ hs (h p (q-1) h1 (by omega) (by omega) (by omega))
 ·exact h p q h1 h2 (by omega) e
theorem K3.move (ho:Ord c){l:List α}{a i j:Nat}(h:K3 c d l a i j)(hj:a<j)(hji:j<=i)(hi:i<l.length)(hl:c (l.getD j d) (l.getD (j-1) d)<0):K3 c d (rJ d l j (j-1)) a i (j-1):=by
 intro p q h1 h2 h3 h4
 have ha:=fun k=>nI (d:=d) (l:=l) (i:=j) (j:=j-1) (k:=k) (by omega) (by omega)
 rw [ha,ha]
 by_cases eq:q=j
 ·subst eq
  rw [if_neg (by omega),if_pos rfl]
  by_cases ep:p=q-1
  ·rw [if_pos ep];exact ho.My _ _ hl
  ·rw [if_neg ep,if_neg (by omega)];exact h p (q-1) h1 (by omega) (by omega) (by omega)
 ·rw [if_neg h4,if_neg eq]
  by_cases ep:p=j-1
  ·rw [if_pos ep];exact h j q (by omega) (by omega) h3 eq
  ·rw [if_neg ep]
   by_cases Pu:p=j
   ·rw [if_pos Pu];exact h (j-1) q (by omega) (by omega) h3 eq
   ·rw [if_neg Pu];exact h p q h1 h2 h3 eq
def Hp (c:α->α->Int)(d:α)(l:List α)(f lo hi:Nat)(r:Option Nat):Prop:=
 (∀i k,lo<=i->(k=2*i+1\/k=2*i+2)->k<hi->r≠some i->¬c (l.getD (f+i) d) (l.getD (f+k) d)<0) /\
 (∀i j k,r=some j->lo<=i->(j=2*i+1\/j=2*i+2)->(k=2*j+1\/k=2*j+2)->k<hi->¬c (l.getD (f+i) d) (l.getD (f+k) d)<0)
theorem Hp.top (ho:Ord c){l:List α}{f hi:Nat}(h:Hp c d l f 0 hi none):∀k,k<hi->¬c (l.getD f d) (l.getD (f+k) d)<0:=by
 intro k
 induction k using Nat.strongRecOn with
 | ind k ih=>
  intro hk
  by_cases h0:k=0
  ·subst h0;exact ho.refl _
  ·exact ho.tr _ _ _ (ih ((k-1) / 2) (by omega) (by omega)) (h.1 ((k-1) / 2) k (by omega) (by omega) hk (by simp))
theorem Hp.leaf {l:List α}{f lo hi r:Nat}(h:Hp c d l f lo hi (some r))(hr:hi<=2*r+1):Hp c d l f lo hi none:=
 ⟨fun i k h1 h2 h3 _=>by
  by_cases e:r=i
  ·omega
  ·exact h.1 i k h1 h2 h3 (by simpa using e),fun i j k e=>by cases e⟩
theorem Hp.stop (ho:Ord c){l:List α}{f lo hi r k:Nat}(h:Hp c d l f lo hi (some r))(hk:k=2*r+1\/k=2*r+2)(hm:∀k',(k'=2*r+1\/k'=2*r+2)->k'<hi->¬c (l.getD (f+k) d) (l.getD (f+k') d)<0)
  (hs:¬c (l.getD (f+r) d) (l.getD (f+k) d)<0):Hp c d l f lo hi none:=
 ⟨fun i k' h1 h2 h3 _=>by
  by_cases e:r=i
  ·subst e;exact ho.tr _ _ _ hs (hm k' h2 h3)
  ·exact h.1 i k' h1 h2 h3 (by simpa using e),fun i j k e=>by cases e⟩
theorem Hp.down (ho:Ord c){l:List α}{f lo hi r k:Nat}(h:Hp c d l f lo hi (some r))(hlo:lo<=r)(hl:f+hi<=l.length)(hk:k=2*r+1\/k=2*r+2)(hkh:k<hi)(hm:∀k',(k'=2*r+1\/k'=2*r+2)->k'<hi->¬c (l.getD (f+k) d) (l.getD (f+k') d)<0)
  (hs:c (l.getD (f+r) d) (l.getD (f+k) d)<0):Hp c d (rJ d l (f+r) (f+k)) f lo hi (some k):=by
 have ha:=fun x=>nI (d:=d) (l:=l) (i:=f+r) (j:=f+k) (k:=x) (by omega) (by omega)
 refine ⟨fun i k' h1 h2 h3 h4=>?_,fun i j k' e h1 h2 h3 h4=>?_⟩
 ·have h4:¬i=k:=fun e=>h4 (by rw [e])
  rw [ha,ha,if_neg (show ¬f+i=f+k by omega)]
  by_cases er:i=r
  ·subst er
   rw [if_pos rfl]
   by_cases ek:k'=k
   ·rw [if_pos (by omega)];exact ho.My _ _ hs
   ·rw [if_neg (by omega),if_neg (by omega)];exact hm k' h2 h3
  ·rw [if_neg (by omega)]
   by_cases ek:k'=r
   ·subst ek
    rw [if_neg (by omega),if_pos rfl]
    exact h.2 i k' k rfl h1 h2 hk hkh
   ·rw [if_neg (by omega),if_neg (by omega)]
    exact h.1 i k' h1 h2 h3 (by simp;omega)
 ·cases e
  rw [ha,ha]
  have:i=r:=by omega
  subst this
  rw [if_neg (by omega),if_pos rfl,if_neg (by omega),if_neg (by omega)]
  exact h.1 k k' (by omega) h3 h4 (by simp;omega)
theorem Hp.more {l:List α}{f lo hi:Nat}(h:Hp c d l f (lo+1) hi none):Hp c d l f lo hi (some lo):=
 ⟨fun i k h1 h2 h3 h4=>h.1 i k (by have:¬lo=i:=fun e=>h4 (by rw [e]);omega) h2 h3 (by simp),fun i j k e h1 h2 h3 h4=>by cases e;omega⟩
def Sep (c:α->α->Int)(d:α)(l:List α)(a m b:Nat):Prop:=∀p q,a<=p->p<m->m<=q->q<b->¬c (l.getD q d) (l.getD p d)<0
theorem qG.sep {l m:List α}{a b x y z:Nat}(h:qG d l m a b)(hs:Sep c d l x y z)(hc:(x<=a/\b<=y)\/(y<=a/\b<=z)\/b<=x\/z<=a):Sep c d m x y z:=by
 intro p q h1 h2 h3 h4
 have key:∀k,∃k',m.getD k d=l.getD k' d/\(k=k'\/a<=k/\k<b/\a<=k'/\k'<b):=fun k=>by
  by_cases hk:a<=k/\k<b
  ·obtain ⟨k',e1,e2,e⟩:=h.mem k hk.1 hk.2
   exact ⟨k',e,.inr ⟨hk.1,hk.2,e1,e2⟩⟩
  ·exact ⟨k,h.out k hk,.inl rfl⟩
 obtain ⟨p',e1,e2⟩:=key p
 obtain ⟨q',f1,f2⟩:=key q
 rw [e1,f1]
 exact hs p' q' (by omega) (by omega) (by omega) (by omega)
theorem qG.jA {l m:List α}{a b x y:Nat}(h:qG d l m a b)(hs:vS c d l x y)(hc:y<=a\/b<=x):vS c d m x y:=by
 intro p q h1 h2 h3
 rw [h.out p (by omega),h.out q (by omega)]
 exact hs p q h1 h2 h3
theorem vS.join {l:List α}{a m b:Nat}(h1:vS c d l a m)(h2:vS c d l m b)(h3:Sep c d l a m b):vS c d l a b:=by
 intro p q g1 g2 g3
 by_cases hq:q<m
 ·exact h1 p q g1 g2 hq
 ·by_cases hp:m<=p
  ·exact h2 p q hp g2 g3
  ·exact h3 p q g1 (by omega) (by omega) g3
end
end Go.Proofs.Tryz
namespace Go.Proofs.Tryz.ah
abbrev V2:=Rat×Rat
def cr (u v:V2):Rat:=u.1*v.2-u.2*v.1
def dt (u v:V2):Rat:=u.1*v.1+u.2*v.2
def up (u:V2):Prop:=u.2>0\/u.2=0/\u.1>0
def dn (u:V2):Prop:=u.2<0\/u.2=0/\u.1<0
def nz (u:V2):Prop:=u.1≠0\/u.2≠0
def U0 (u v:V2):Prop:=(up u/\dn v)\/((up u/\up v\/dn u/\dn v)/\cr u v>0)
def WA (s r:V2):Prop:=∃c:Rat,c>0/\s.1=-(c*r.1)/\s.2=-(c*r.2)
theorem Ey (u v:V2):cr v u=-cr u v:=by unfold cr;grind
theorem Rh (u w r:V2):cr u r*w.1+cr r w*u.1=cr u w*r.1:=by unfold cr;grind
theorem Hy (u w r:V2):cr u r*w.2+cr r w*u.2=cr u w*r.2:=by unfold cr;grind
theorem mp {a b:Rat}(ha:a>0)(hb:b>0):a*b>0:=Rat.mul_pos ha hb
theorem mn {a b:Rat}(ha:a≥0)(hb:b≥0):a*b≥0:=Rat.mul_nonneg ha hb
theorem b1 {u w r:V2}(hu:up u)(hw:dn w)(hr:up r)(a:cr u r>0)(b:cr r w<=0)(c:cr u w≥0):False:=by
 have e:=Hy u w r
 unfold up at hu hr;unfold dn at hw
 have h1:cr u r*(-w.2)≥0:=mn (by grind) (by grind)
 have h2:(-(cr r w))*u.2≥0:=mn (by grind) (by grind)
 have h3:cr u w*r.2≥0:=mn c (by grind)
 have z1:cr u r*w.2=0:=by grind
 have w2:w.2=0:=by rcases Rat.mul_eq_zero.1 z1 with h|h<;>grind
 have w1:w.1<0:=by grind
 have bb:cr r w=-(r.2*w.1):=by unfold cr;grind
 have r2:r.2=0:=by
  by_cases h:r.2>0
  ·have:=mp h (show -w.1>0 by grind)
   grind
  ·grind
 have r1:r.1>0:=by grind
 have aa:cr u r=-(u.2*r.1):=by unfold cr;grind
 have:=mn (show u.2≥0 by grind) (show r.1≥0 by grind)
 grind
theorem b2 {u w r:V2}(hu:up u)(hw:dn w)(hr:dn r)(a:cr u r<=0)(b:cr r w>0)(c:cr u w≥0):False:=by
 have e:=Hy u w r
 unfold up at hu;unfold dn at hw hr
 have h1:(-(cr u r))*(-w.2)≥0:=mn (by grind) (by grind)
 have h2:cr r w*u.2≥0:=mn (by grind) (by grind)
 have h3:cr u w*(-r.2)≥0:=mn c (by grind)
 have z1:cr r w*u.2=0:=by grind
 have u2:u.2=0:=by rcases Rat.mul_eq_zero.1 z1 with h|h<;>grind
 have u1:u.1>0:=by grind
 have cc:cr u w=u.1*w.2:=by unfold cr;grind
 have w2:w.2=0:=by
  by_cases h:w.2<0
  ·have:=mp u1 (show -w.2>0 by grind)
   grind
  ·grind
 have w1:w.1<0:=by grind
 have bb:cr r w=-(r.2*w.1):=by unfold cr;grind
 have:=mn (show -r.2≥0 by grind) (show -w.1≥0 by grind)
 grind
theorem b3 {u w r:V2}(hu:dn u)(hw:up w)(hr:dn r)(a:cr u r>0)(b:cr r w<=0)(c:cr u w≥0):False:=by
 have e:=Hy u w r
 unfold dn at hu hr;unfold up at hw
 have h1:cr u r*w.2≥0:=mn (by grind) (by grind)
 have h2:(-(cr r w))*(-u.2)≥0:=mn (by grind) (by grind)
 have h3:cr u w*(-r.2)≥0:=mn c (by grind)
 have z1:cr u r*w.2=0:=by grind
 have w2:w.2=0:=by rcases Rat.mul_eq_zero.1 z1 with h|h<;>grind
 have w1:w.1>0:=by grind
 have bb:cr r w=-(r.2*w.1):=by unfold cr;grind
 have r2:r.2=0:=by
  by_cases h:r.2<0
  ·have:=mp w1 (show -r.2>0 by grind)
   grind
  ·grind
 have r1:r.1<0:=by grind
 have aa:cr u r=-(u.2*r.1):=by unfold cr;grind
 have:=mn (show -u.2≥0 by grind) (show -r.1≥0 by grind)
 grind
theorem b4 {u w r:V2}(hu:dn u)(hw:up w)(hr:up r)(a:cr u r<=0)(b:cr r w>0)(c:cr u w≥0):False:=by
 have e:=Hy u w r
 unfold dn at hu;unfold up at hw hr
 have h1:(-(cr u r))*w.2≥0:=mn (by grind) (by grind)
 have h2:cr r w*(-u.2)≥0:=mn (by grind) (by grind)
 have h3:cr u w*r.2≥0:=mn c (by grind)
 have z1:cr r w*u.2=0:=by grind
 have u2:u.2=0:=by rcases Rat.mul_eq_zero.1 z1 with h|h<;>grind
 have u1:u.1<0:=by grind
 have cc:cr u w=u.1*w.2:=by unfold cr;grind
 have w2:w.2=0:=by
  by_cases h:w.2>0
  ·have:=mp h (show -u.1>0 by grind)
   grind
  ·grind
 have w1:w.1>0:=by grind
 have bb:cr r w=-(r.2*w.1):=by unfold cr;grind
 have:=mn (show r.2≥0 by grind) (show w.1≥0 by grind)
 grind
structure Pp (D:List V2):Prop where
 nz:∀r∈D,nz r
 cl:∀r∈D,∃s∈D,WA s r
 jA:D.Pairwise U0
def ss (a b:Rat):Prop:=(b>0->a>0)/\(b<0->a<0)
section
variable {D:List V2} (h:Pp D) {v:V2} (hv:∀r ∈ D,cr r v≠0)
include h hv
end
theorem sq_pos {u:V2}(h:nz u):dt u u>0:=by
 have sq:∀x:Rat,x*x≥0:=fun x=>by
  by_cases hx:x≥0
  ·exact mn hx hx
  ·have:=mn (show -x≥0 by grind) (show -x≥0 by grind);grind
 have:=sq u.1
 have:=sq u.2
 unfold dt
 by_cases hh:u.1*u.1+u.2*u.2>0
 ·exact hh
 ·unfold nz at h
  have e1:u.1*u.1=0:=by grind
  have e2:u.2*u.2=0:=by grind
  rcases Rat.mul_eq_zero.1 e1 with e|e<;>rcases Rat.mul_eq_zero.1 e2 with e'|e'<;>grind
section
variable {D:List V2} (h:Pp D)
include h
end
section
variable {D:List V2} (h:Pp D)
include h
end
end Go.Proofs.Tryz.ah
namespace Go.Proofs.Tryz
open Go.bF
def Fc (V:View)(g:Nat)(y:Value):Prop:=V.at ⟨g,0,none⟩ y
theorem Fc.le {V V':View}{g:Nat}{y:Value}(h:Fc V g y)(l:V.Le V'):Fc V' g y:=l.at h
def Gz (y:Value):Prop:=∃a:Addr,y=.iface 294 (.pointer (some a))
section
open Go.RowKit Go.Extern.Stop Go.Stop Go.Extern
theorem FD (v:Value)(w:World):(Extern.ReflectliteType.typeOf #[.iface 294 v]).run prog w=.ok (.iface 198 (.agg #[.pointer (some ⟨5,294,none⟩)])) w:=by kernel_rfl
theorem wi (w : World) : ((Extern.ReflectliteType.method fun t => do Extern.Rtype.noPackHeld "Comparable" t; (fun a => Value.bool a.comparable) <$> typeInfo t) #[.agg #[.pointer (some ⟨5, 294, none⟩)]]).run prog w = .ok (.bool true) w := by kernel_rfl
theorem Ju:(prog.info? 294).map (·.comparable)=some true:=by kernel_rfl
theorem Jw:(prog.info? 319).map (·.size)=some 1:=by kernel_rfl
theorem mB (v : Value)(w : World) : (Go.method 435 198 v "Comparable").run prog w = .ok (257, v) w := by kernel_rfl
theorem Jv (a:Addr)(w:World) :
  Calls prog 17 #[.iface 294 (.pointer (some a)),.iface 294 (.pointer (some a))] w fun e w'=>e=.returned (.bool true)/\w'=w:=by
 obtain ⟨i,hi,hcmp⟩:=Option.map_eq_some_iff.1 Ju
 obtain ⟨j,hj,hjs⟩:=Option.map_eq_some_iff.1 Jw
 have h8:=@run_callFunc_extern prog 67 _ Extern.ReflectliteType.typeOf func67 (by kernel_rfl) (by kernel_rfl) (by kernel_rfl) (by kernel_rfl)
 have h32 := @run_callFunc_extern prog 257 _ (Extern.ReflectliteType.method fun t => do Extern.Rtype.noPackHeld "Comparable" t; pure (.bool (← typeInfo t).comparable)) func257 (by kernel_rfl) (by kernel_rfl) (by kernel_rfl) (by kernel_rfl)
 have tT:=FD
 have cT:=wi
 have mR:=mB
 have heq:=run_eql_iface_ptr_same (P:=prog) w a underlying47 underlying294 hi hcmp hj
 go_enter func17,ntmps17
 go_wp2
 refine wp_loop_rounds 1 ?_
 rw [rounds_succ]
 go_wp2
 go_ret
 exact ⟨rfl,rfl⟩
end
theorem CQ {f:FuncId}{args:Array Value}{V:View}{v:Value}(hc:hZ prog f)(h:Calls prog f args V.w fun e w'=>e=.returned v/\w'=V.w):ab prog f args V fun r _=>r=v:=
 ⟨hc,h.mono fun e w' ⟨h1,h2⟩=>by subst h2;exact ⟨v,h1,eA.refl _ _,rfl⟩⟩
theorem pP {V:View}{y:Value}(h:Gz y):ab prog 17 #[y,y] V fun r _=>r=.bool true:=by
 obtain ⟨a,rfl⟩:=h
 exact CQ ⟨f17,func17,rfl,by kernel_rfl⟩ (Jv a V.w)
end Go.Proofs.Tryz
namespace Go.bF
open Go.eK
theorem ay {x:Int}(h:-9223372036854775808<=x/\x<=9223372036854775807):i64.wrap x=x:=IntWalk.i64_in x h
theorem aM {x:Int}(h:0<=x/\x<=18446744073709551615):u64.wrap x=x:=IntWalk.u64_in x h
theorem po {x:Int}(h:0<=x/\x<=4294967295):u32.wrap x=x:=IntWalk.u32_in x h
theorem gW (x:Int):u32.wrap x=x%4294967296:=by rw [IntKind.wrap_u32]
theorem qv (x:Int):u64.wrap x=x%18446744073709551616:=by rw [IntKind.wrap_u64]
theorem kP {x:Int}:x.fdiv (2^32)=x / 4294967296:=by rw [Int.fdiv_eq_ediv_of_nonneg _ (by decide)];rfl
theorem IH {x:Int}:x.fdiv (2^63)=x / 9223372036854775808:=by rw [Int.fdiv_eq_ediv_of_nonneg _ (by decide)];rfl
theorem BI (a b:Nat)(ha:a<4294967296)(hb:b<4294967296):bl .or .u64 ((a:Int)*4294967296) (b:Int)=(a:Int)*4294967296+b:=by
 have h1:((a:Int)*4294967296)=((a*2^32:Nat):Int):=by simp
 rw [bl,h1,qv]
 have h2:(BitVec.ofInt IntKind.u64.bits ((a*2^32:Nat):Int) ||| BitVec.ofInt IntKind.u64.bits (b:Int)).toNat=a*2^32+b:=by
  show (BitVec.ofInt 64 ((a*2^32:Nat):Int) ||| BitVec.ofInt 64 (b:Int)).toNat=_
  rw [BitVec.ofInt_natCast,BitVec.ofInt_natCast,BitVec.toNat_or,BitVec.toNat_ofNat,BitVec.toNat_ofNat,Nat.mod_eq_of_lt (by omega),Nat.mod_eq_of_lt (by omega)]
  have:=Nat.shiftLeft_add_eq_or_of_lt (b:=b) (i:=32) (by omega) a
  rw [Nat.shiftLeft_eq] at this
  exact this.symm
 rw [h2]
 omega
def aD (ds:List Nat):List Value:=ds.map fun (d:Nat)=>Value.int .u32 (d:Int)
@[simp] theorem OW (ds:List Nat):(aD ds).length=ds.length:=by simp [aD]
theorem br (ds:List Nat)(i x:Nat):(aD ds).set i (.int .u32 (x:Int))=aD (ds.set i x):=by simp [aD,List.map_set]
theorem cL (n:Nat):List.replicate n (Value.int .u32 0)=aD (List.replicate n 0):=by simp [aD]
theorem fG {ds:List Nat}{i:Nat}(h:i<ds.length):(aD ds)[i]?=some (.int .u32 (ds[i]:Int)):=by simp [aD,h]
theorem yy (ds:List Nat)(k:Nat):aD (ds.take k)=(aD ds).take k:=by simp [aD,List.map_take]
theorem Gh (ds:List Nat)(k:Nat):aD (ds.drop k)=(aD ds).drop k:=by simp [aD,List.map_drop]
theorem rm (a b:List Nat):aD (a++b)=aD a++aD b:=by simp [aD]
theorem View.Le.sl {V V':View}(h:V.Le V'){a:OA}{xs:List Value}(hs:V.sl a xs):V'.sl a xs:=
 fun i v hv=>let ⟨ad,e,ha⟩:=hs i v hv;⟨ad,e,h.at ha⟩
structure RD (V:View) (p:OA) (n c:Nat) (ds:List Nat):Prop where
 len:n=ds.length
 cap:n<=c
 sl:V.sl p (aD ds)
 eu:bP ds
 H2:p.isNone=true->c=0
theorem RD.le {V V':View}{p:OA}{n c:Nat}{ds:List Nat}(h:RD V p n c ds)(l:V.Le V'):RD V' p n c ds:=⟨h.len,h.cap,l.sl h.sl,h.eu,h.H2⟩
theorem RD.nil {V:View}:RD V none 0 0 []:=⟨rfl,Nat.le_refl _,fun i v h=>by simp [aD] at h,bP.nil,fun _=>rfl⟩
theorem RD.take {V:View}{p:OA}{n c:Nat}{ds:List Nat}(h:RD V p n c ds){k:Nat}(hk:k<=n):RD V p k c (ds.take k):=by
 have:=h.len
 refine ⟨by simp;omega,by have:=h.cap;omega,fun i v hv=>h.sl i v ?_,h.eu.take k,h.H2⟩
 rw [yy] at hv
 rw [List.getElem?_take] at hv
 split at hv
 ·exact hv
 ·cases hv
theorem RD.rd {V:View}{p:OA}{n c:Nat}{ds:List Nat}(h:RD V p n c ds){i:Int}{K:Int->Prop}(j:Nat)(hj:i=j)(hn:j<ds.length)
  (hK:K ((ds[j]:Nat):Int)):(p.isSome=true)/\(0<=i/\i<(n:Int))/\∃x:Int,(∃a,ai p (i.toNat*1)=some a/\V.at a (.int .u32 x))/\K x:=by
 obtain ⟨ad,e,ha⟩:=h.sl j _ (fG hn)
 have:=h.len
 subst hj
 refine ⟨by rw [e];rfl,⟨by omega,by omega⟩,_,⟨ad.add j,?_,ha⟩,hK⟩
 rw [e];simp [ai]
theorem fN {V:View}{b:Nat}{xs:List Value}{ty:TypeId}{m:Nat×Nat}(h:V.bC b (.cells xs.toArray ty m)){i:Nat}{v:Value}(hv:xs[i]?=some v):V.at ⟨b,i,none⟩ v:=by
 refine ⟨h.1,?_⟩
 unfold World.cell?
 rw [h.2]
 simpa using hv
theorem add_zero' (b i:Nat):(⟨b,0,none⟩:Addr).add i=⟨b,i,none⟩:=by
 unfold Addr.add
 split
 ·rename_i h;simp_all
 ·simp
theorem RD.bC {V:View}{b:Nat}{ds:List Nat}{ty:TypeId}{m:Nat×Nat}(h:V.bC b (.cells (aD ds).toArray ty m))(hd:bP ds){n c:Nat}(hn:n=ds.length)(hc:n<=c):RD V (some ⟨b,0,none⟩) n c ds:=
 ⟨hn,hc,fun i v hv=>⟨_,rfl,by rw [add_zero'];exact fN h hv⟩,hd,fun e=>nomatch e⟩
end Go.bF
namespace Go.eK
def bJ (n:Nat):Nat:=if n=0 then 0 else n.log2+1
theorem oS (n:Nat):n<2^bJ n:=by
 unfold bJ;split
 ·subst_vars;decide
 ·exact Nat.lt_log2_self
theorem oP {n:Nat}(h:n≠0):2^(bJ n-1)<=n:=by
 unfold bJ;rw [if_neg h];exact Nat.log2_self_le h
theorem qI {n b:Nat}(h0:n<2^b)(h1:b=0\/2^(b-1)<=n):bJ n=b:=by
 rcases h1 with h1|h1
 ·subst h1;have:n=0:=by simpa using h0
  subst this;rfl
 ·have hn:n≠0:=by have:=Nat.two_pow_pos (b-1);omega
  have g0:=oS n
  have g1:=oP hn
  have e1:¬bJ n<b:=fun h=>by have:=Nat.pow_le_pow_right (n:=2) (by omega) (show bJ n<=b-1 by omega);omega
  have e2:¬b<bJ n:=fun h=>by have:=Nat.pow_le_pow_right (n:=2) (by omega) (show b<=bJ n-1 by omega);omega
  omega
theorem iS {n b:Nat}:bJ n<=b↔n<2^b:=by
 constructor
 ·intro h;exact Nat.lt_of_lt_of_le (oS n) (Nat.pow_le_pow_right (by omega) h)
 ·intro h
  rcases Nat.lt_or_ge b (bJ n) with h'|h'
  ·have hn:n≠0:=by intro e;subst e;simp [bJ] at h'
   have:=oP hn
   have:=Nat.pow_le_pow_right (n:=2) (by omega) (show b<=bJ n-1 by omega)
   omega
  ·exact h'
theorem tu {n k:Nat}(h:2^k<=n):bJ (n / 2^k)+k=bJ n:=by
 have hp:=Nat.two_pow_pos k
 have hq:n / 2^k≠0:=by have:=Nat.div_pos h hp;omega
 have g0:=oS (n / 2^k)
 have g1:=oP hq
 refine (qI ?_ (.inr ?_)).symm
 ·rw [Nat.pow_add];exact (Nat.div_lt_iff_lt_mul hp).1 g0
 ·have hb:0<bJ (n / 2^k):=by unfold bJ;rw [if_neg hq];omega
  rw [show bJ (n / 2^k)+k-1=bJ (n / 2^k)-1+k from by omega,Nat.pow_add]
  exact (Nat.le_div_iff_mul_le hp).1 g1
end Go.eK
namespace Go.Proofs.Tryz
open Go.bF Go.eK
theorem fx (a k:Nat):((a:Nat):Int).fdiv (2^k)=((a / 2^k:Nat):Int):=by
 rw [Int.fdiv_eq_ediv_of_nonneg _ (by have:=Int.pow_pos (n:=2) (m:=k) (by omega);omega)]
 simp
def JR:ByteArray:=⟨#[0,1,2,2,3,3,3,3,4,4,4,4,4,4,4,4,5,5,5,5,5,5,5,5,5,5,5,5,5,5,5,5,6,6,6,6,6,6,6,6,6,6,6,6,6,6,6,6,6,6,6,6,6,6,6,6,6,6,6,6,6,6,6,6,7,7,7,7,7,7,7,7,7,7,7,7,7,7,7,7,7,7,7,7,7,7,7,7,7,7,7,7,7,7,7,7,7,7,7,7,7,7,7,7,7,7,7,7,7,7,7,7,7,7,7,7,7,7,7,7,7,7,7,7,7,7,7,7,8,8,8,8,8,8,8,8,8,8,8,8,8,8,8,8,8,8,8,8,8,8,8,8,8,8,8,8,8,8,8,8,8,8,8,8,8,8,8,8,8,8,8,8,8,8,8,8,8,8,8,8,8,8,8,8,8,8,8,8,8,8,8,8,8,8,8,8,8,8,8,8,8,8,8,8,8,8,8,8,8,8,8,8,8,8,8,8,8,8,8,8,8,8,8,8,8,8,8,8,8,8,8,8,8,8,8,8,8,8,8,8,8,8,8,8,8,8,8,8,8,8,8,8,8,8,8,8]⟩
set_option maxRecDepth 10000 in
theorem Jm {V:View}(x:Nat)(hx:x<4294967296) :
  ab prog 225 #[.int .u32 (x:Int)] V fun r V'=>r=.int .i64 (bJ x:Int):=by
 refine nT _ V _ ⟨fun z _=>∃y b:Nat,z=((y:Int),(b:Int))/\y<65536/\b<=16/\bJ x=bJ y+b,⟨fun h0=>⟨by omega,?_⟩,fun h0=>?_⟩,?_⟩
 ·rw [fx]
  have h0:2^16<=x:=by simp at h0;omega
  exact ⟨_,⟨rfl,rfl⟩,x / 2^16,16,rfl,by omega,by omega,(tu h0).symm⟩
 ·exact ⟨_,⟨rfl,rfl⟩,x,0,rfl,by simp at h0;omega,by omega,rfl⟩
 ·rintro _ V1 l1 ⟨y,b,rfl,hy,hb,e⟩
  rw [e];clear e
  refine ⟨by trivial,fun z _=>∃y' b':Nat,z=((y':Int),(b':Int))/\y'<256/\b'<=24/\bJ y+b=bJ y'+b',⟨fun h0=>⟨by omega,?_⟩,fun h0=>?_⟩,?_⟩
  ·dsimp only at h0 ⊢
   rw [fx]
   simp (disch:=omega) only [ay]
   have h0:2^8<=y:=by simp at h0;omega
   exact ⟨(((y / 2^8:Nat):Int),(b:Int)+8),⟨rfl,rfl⟩,y / 2^8,b+8,by simp,by omega,by omega,by have:=tu h0;omega⟩
  ·exact ⟨_,⟨rfl,rfl⟩,y,b,rfl,by simp at h0;omega,by omega,rfl⟩
  ·rintro _ V2 l2 ⟨y,b,rfl,hy,hb,e⟩
   rw [e];clear e
   have hw:IntKind.u8.wrap (y:Int)=y:=IntWalk.u8_in _ (by omega)
   dsimp only
   rw [hw]
   have hsz:(JR.size:Int)=256:=rfl
   refine ⟨by trivial,⟨by omega,by show (y:Int)<(JR.size:Int);rw [hsz];omega⟩,fun V3 l3=>?_⟩
   show Value.int .i64 (i64.wrap (b+i64.wrap ((JR.data.toList.getD (y:Int).toNat 0).toNat:Int)))=_
   congr 1
   have key:∀y:Nat,y<256->(JR.data.toList.getD y 0).toNat=bJ y:=by decide +kernel
   have hbl:bJ y<=8:=iS.2 (by omega)
   have:=key y hy
   rw [Int.toNat_natCast,this]
   simp (disch:=omega) only [ay]
   omega
theorem fO {V:View}(x:Nat)(hx:x<4294967296) :
  ab prog 203 #[.int .u32 (x:Int)] V fun r V'=>r=.int .i64 (32-(bJ x:Int)):=by
 refine g_ _ V _ fun V1 l1=>(Jm x hx).mono ?_
 rintro r V2 l2 rfl
 have hbl:bJ x<=32:=iS.2 (by omega)
 refine ⟨_,rfl,fun V3 l3=>?_⟩
 simp (disch:=omega) only [ay]
theorem Em (a:Nat)(ha:a<18446744073709551616):bl .and .u64 (a:Int) 4294967295=((a%4294967296:Nat):Int):=by
 rw [bl,qv]
 have h2:(BitVec.ofInt IntKind.u64.bits ((a:Nat):Int) &&& BitVec.ofInt IntKind.u64.bits 4294967295).toNat=a%4294967296:=by
  show (BitVec.ofInt 64 ((a:Nat):Int) &&& BitVec.ofInt 64 ((4294967295:Nat):Int)).toNat=_
  rw [BitVec.ofInt_natCast,BitVec.ofInt_natCast,BitVec.toNat_and,BitVec.toNat_ofNat,BitVec.toNat_ofNat,Nat.mod_eq_of_lt (by omega),Nat.mod_eq_of_lt (by omega)]
  have:=Nat.and_two_pow_sub_one_eq_mod a 32
  exact this
 rw [h2]
 omega
theorem BB (a b c d:Nat)(ha:a<4294967296)(hb:b<4294967296)(hc:c<4294967296)(hd:d<4294967296) :
  a*c+(a*d+b*d / 4294967296) / 4294967296+((a*d+b*d / 4294967296)%4294967296+b*c) / 4294967296=(a*4294967296+b)*(c*4294967296+d) / 18446744073709551616 /\
  a*c<=18446744065119617025/\a*d<=18446744065119617025/\b*c<=18446744065119617025/\b*d<=18446744065119617025:=by
 have h1:a*c<=4294967295*4294967295:=Nat.mul_le_mul (by omega) (by omega)
 have h2:a*d<=4294967295*4294967295:=Nat.mul_le_mul (by omega) (by omega)
 have h3:b*c<=4294967295*4294967295:=Nat.mul_le_mul (by omega) (by omega)
 have h4:b*d<=4294967295*4294967295:=Nat.mul_le_mul (by omega) (by omega)
 have e:(a*4294967296+b)*(c*4294967296+d)=(a*c)*18446744073709551616+(a*d)*4294967296+(b*c)*4294967296+b*d:=by grind
 rw [e]
 generalize a*c=p at *
 generalize a*d=q at *
 generalize b*c=r at *
 generalize b*d=s at *
 refine ⟨by omega,by omega,by omega,by omega,by omega⟩
theorem Jn {V:View}(x y:Nat)(hx:x<18446744073709551616)(hy:y<18446744073709551616) :
  ab prog 226 #[.int .u64 (x:Int),.int .u64 (y:Int)] V fun r V'=>r=.tuple #[.int .u64 ((x*y / 18446744073709551616:Nat):Int),.int .u64 ((x*y%18446744073709551616:Nat):Int)]:=by
 refine nU _ _ V _ ⟨by omega,by omega,by omega,by omega,by omega,fun V1 l1=>?_⟩
 have p:=BB (x / 4294967296) (x%4294967296) (y / 4294967296) (y%4294967296) (by omega) (by omega) (by omega) (by omega)
 rw [Nat.div_add_mod' x 4294967296,Nat.div_add_mod' y 4294967296] at p
 obtain ⟨p1,p2,p3,p4,p5⟩:=p
 have hlo:u64.wrap ((x:Int)*y)=((x*y%18446744073709551616:Nat):Int):=by rw [qv];simp
 rw [hlo,Em x hx,Em y hy,kP,kP]
 rw [←p1]
 have hA:((x:Int) / 4294967296)*((y:Int) / 4294967296)=((x / 4294967296*(y / 4294967296):Nat):Int):=by simp
 have hB:((x:Int) / 4294967296)*((y%4294967296:Nat):Int)=((x / 4294967296*(y%4294967296):Nat):Int):=by simp
 have hC:((x%4294967296:Nat):Int)*((y:Int) / 4294967296)=((x%4294967296*(y / 4294967296):Nat):Int):=by simp
 have hD:((x%4294967296:Nat):Int)*((y%4294967296:Nat):Int)=((x%4294967296*(y%4294967296):Nat):Int):=by simp
 rw [hA,hB,hC,hD]
 generalize x / 4294967296*(y / 4294967296)=a at *
 generalize x / 4294967296*(y%4294967296)=b at *
 generalize x%4294967296*(y / 4294967296)=c at *
 generalize x%4294967296*(y%4294967296)=d at *
 simp only [kP]
 have w1:u64.wrap (d:Int)=d:=aM (by omega)
 have w2:u64.wrap (b:Int)=b:=aM (by omega)
 have w3:u64.wrap (c:Int)=c:=aM (by omega)
 have w4:u64.wrap (a:Int)=a:=aM (by omega)
 rw [w1,w2,w3,w4]
 have w5:u64.wrap ((b:Int)+d / 4294967296)=((b+d / 4294967296:Nat):Int):=by rw [aM (by omega)];omega
 rw [w5,Em _ (by omega)]
 have w6:u64.wrap (((b+d / 4294967296)%4294967296:Nat)+(c:Int))=(((b+d / 4294967296)%4294967296+c:Nat):Int):=by rw [aM (by omega)];omega
 rw [w6]
 have hlt:x*y / 18446744073709551616<18446744073709551616:=by
  have:x*y<18446744073709551616*18446744073709551616:=Nat.mul_lt_mul'' hx hy
  omega
 have w7:u64.wrap ((a:Int)+((b+d / 4294967296:Nat):Int) / 4294967296)=((a+(b+d / 4294967296) / 4294967296:Nat):Int):=by
  rw [aM (by omega)];omega
 rw [w7]
 have w8:u64.wrap (((a+(b+d / 4294967296) / 4294967296:Nat):Int)+(((b+d / 4294967296)%4294967296+c:Nat):Int) / 4294967296)=((a+(b+d / 4294967296) / 4294967296+((b+d / 4294967296)%4294967296+c) / 4294967296:Nat):Int):=by
  rw [aM (by omega)];omega
 rw [w8]
theorem Jk {V:View}(x y c:Nat)(hx:x<4294967296)(hy:y<4294967296)(hc:c<4294967296) :
  ab prog 200 #[.int .u32 (x:Int),.int .u32 (y:Int),.int .u32 (c:Int)] V fun r V'=>r=.tuple #[.int .u32 (((x+y+c)%4294967296:Nat):Int),.int .u32 (((x+y+c) / 4294967296:Nat):Int)]:=by
 refine nR _ _ _ V _ ⟨by omega,fun V1 l1=>?_⟩
 simp (disch:=omega) only [aM,gW,kP]
 have e1:((x:Int)+y+c)%4294967296=(((x+y+c)%4294967296:Nat):Int):=by omega
 have e2:((x:Int)+y+c) / 4294967296%4294967296=(((x+y+c) / 4294967296:Nat):Int):=by omega
 rw [e1,e2]
theorem Ky (a b:Nat)(ha:a<4294967296)(hb:b<4294967296):bl .and .u32 (a:Int) (b:Int)=((a &&& b:Nat):Int):=by
 have h2:(BitVec.ofInt IntKind.u32.bits ((a:Nat):Int) &&& BitVec.ofInt IntKind.u32.bits ((b:Nat):Int)).toNat=a &&& b:=by
  show (BitVec.ofInt 32 ((a:Nat):Int) &&& BitVec.ofInt 32 ((b:Nat):Int)).toNat=_
  rw [BitVec.ofInt_natCast,BitVec.ofInt_natCast,BitVec.toNat_and,BitVec.toNat_ofNat,BitVec.toNat_ofNat,Nat.mod_eq_of_lt (by omega),Nat.mod_eq_of_lt (by omega)]
 have h3:a &&& b<2^32:=Nat.and_lt_two_pow a (by omega)
 rw [bl,gW,h2]
 omega
theorem RO (a b:Nat)(ha:a<4294967296)(hb:b<4294967296):bl .or .u32 (a:Int) (b:Int)=((a ||| b:Nat):Int):=by
 have h2:(BitVec.ofInt IntKind.u32.bits ((a:Nat):Int) ||| BitVec.ofInt IntKind.u32.bits ((b:Nat):Int)).toNat=a ||| b:=by
  show (BitVec.ofInt 32 ((a:Nat):Int) ||| BitVec.ofInt 32 ((b:Nat):Int)).toNat=_
  rw [BitVec.ofInt_natCast,BitVec.ofInt_natCast,BitVec.toNat_or,BitVec.toNat_ofNat,BitVec.toNat_ofNat,Nat.mod_eq_of_lt (by omega),Nat.mod_eq_of_lt (by omega)]
 have h3:a ||| b<2^32:=Nat.or_lt_two_pow (by omega) (by omega)
 rw [bl,gW,h2]
 omega
theorem I6 (a b:Nat)(ha:a<4294967296)(hb:b<4294967296):bl .xor .u32 (a:Int) (b:Int)=((a ^^^ b:Nat):Int):=by
 have h2:(BitVec.ofInt IntKind.u32.bits ((a:Nat):Int) ^^^ BitVec.ofInt IntKind.u32.bits ((b:Nat):Int)).toNat=a ^^^ b:=by
  show (BitVec.ofInt 32 ((a:Nat):Int) ^^^ BitVec.ofInt 32 ((b:Nat):Int)).toNat=_
  rw [BitVec.ofInt_natCast,BitVec.ofInt_natCast,BitVec.toNat_xor,BitVec.toNat_ofNat,BitVec.toNat_ofNat,Nat.mod_eq_of_lt (by omega),Nat.mod_eq_of_lt (by omega)]
 have h3:a ^^^ b<2^32:=Nat.xor_lt_two_pow (by omega) (by omega)
 rw [bl,gW,h2]
 omega
theorem OU {n:Nat}(h:n<4294967296):n / 2147483648=if n.testBit 31 then 1 else 0:=by
 rw [Nat.testBit_eq_decide_div_mod_eq]
 have:(2:Nat)^31=2147483648:=by decide
 rw [this]
 split
 ·rename_i h1;simp at h1;omega
 ·rename_i h1;simp at h1;omega
theorem Ep {n:Nat}(h:n<4294967296):n.testBit 31=decide (2147483648<=n):=by
 rw [Nat.testBit_eq_decide_div_mod_eq]
 have:(2:Nat)^31=2147483648:=by decide
 rw [this]
 congr 1
 simp;omega
theorem GS (x y c:Nat)(hx:x<4294967296)(hy:y<4294967296)(hc:c<=1){d:Nat}(hd:(d:Int)=((x:Int)-y-c)%4294967296) :
  (((4294967295 ^^^ x) &&& y) ||| ((4294967295 ^^^ (x ^^^ y)) &&& d)) / 2147483648=if x<y+c then 1 else 0:=by
 have h1:(4294967295 ^^^ x)<2^32:=Nat.xor_lt_two_pow (by omega) (by omega)
 have h2:x ^^^ y<2^32:=Nat.xor_lt_two_pow (by omega) (by omega)
 have h3:(4294967295 ^^^ (x ^^^ y))<2^32:=Nat.xor_lt_two_pow (by omega) h2
 have h4:(4294967295 ^^^ x) &&& y<2^32:=Nat.and_lt_two_pow _ (by omega)
 have h5:(4294967295 ^^^ (x ^^^ y)) &&& d<2^32:=Nat.and_lt_two_pow _ (by omega)
 have h6:=Nat.or_lt_two_pow h4 h5
 rw [OU h6]
 have hd':d<4294967296:=by omega
 rw [Nat.testBit_or,Nat.testBit_and,Nat.testBit_and,Nat.testBit_xor,Nat.testBit_xor,Nat.testBit_xor,Ep hx,Ep hy,Ep hd',Ep (n:=4294967295) (by omega)]
 by_cases a1:2147483648<=x<;>by_cases a2:2147483648<=y<;>by_cases a3:2147483648<=d<;>simp [a1,a2,a3]<;>omega
theorem Jp {V:View}(x y c:Nat)(hx:x<4294967296)(hy:y<4294967296)(hc:c<=1) :
  ab prog 201 #[.int .u32 (x:Int),.int .u32 (y:Int),.int .u32 (c:Int)] V fun r V'=>∃d b:Nat,r=.tuple #[.int .u32 (d:Int),.int .u32 (b:Int)]/\d<4294967296/\b<=1/\d+(y+c)=x+4294967296*b:=by
 refine nV _ _ _ V _ ⟨by omega,fun V1 l1=>?_⟩
 obtain ⟨d,hd⟩:∃d:Nat,(d:Int)=((x:Int)-y-c)%4294967296:=⟨(((x:Int)-y-c)%4294967296).toNat,by omega⟩
 have hd':d<4294967296:=by omega
 have w1:u32.wrap (u32.wrap ((x:Int)-y)-c)=(d:Int):=by rw [gW,gW];omega
 have w2:IntKind.u32.max=((4294967295:Nat):Int):=rfl
 have h1:(4294967295 ^^^ x)<2^32:=Nat.xor_lt_two_pow (by omega) (by omega)
 have h2:x ^^^ y<2^32:=Nat.xor_lt_two_pow (by omega) (by omega)
 have h3:(4294967295 ^^^ (x ^^^ y))<2^32:=Nat.xor_lt_two_pow (by omega) h2
 have h4:(4294967295 ^^^ x) &&& y<2^32:=Nat.and_lt_two_pow _ (by omega)
 have h5:(4294967295 ^^^ (x ^^^ y)) &&& d<2^32:=Nat.and_lt_two_pow _ (by omega)
 rw [w1,w2,I6 _ _ (by omega) hx,Ky _ _ h1 hy,I6 _ _ hx hy,I6 _ _ (by omega) h2,Ky _ _ h3 hd',RO _ _ h4 h5,fx]
 have e:(2:Nat)^31=2147483648:=by decide
 rw [e,GS x y c hx hy hc hd]
 refine ⟨d,_,rfl,hd',?_,?_⟩
 ·split<;>omega
 ·split<;>omega
theorem Jl {V:View}(hi lo y:Nat)(hh:hi<y)(hl:lo<4294967296)(hy:y<4294967296) :
  ab prog 172 #[.int .u32 (hi:Int),.int .u32 (lo:Int),.int .u32 (y:Int)] V fun r V'=>r=.tuple #[.int .u32 (((hi*4294967296+lo) / y:Nat):Int),.int .u32 (((hi*4294967296+lo)%y:Nat):Int)]:=by
 have key:∀V1:View,Value.tuple #[.int .u32 (u32.wrap (u64.wrap ((bl .or .u64 (u64.wrap ((u64.wrap (hi:Int))*2^32)) (u64.wrap (lo:Int))).tdiv (u64.wrap (y:Int))))),.int .u32 (u32.wrap ((bl .or .u64 (u64.wrap ((u64.wrap (hi:Int))*2^32)) (u64.wrap (lo:Int))).tmod (u64.wrap (y:Int))))]=.tuple #[.int .u32 (((hi*4294967296+lo) / y:Nat):Int),.int .u32 (((hi*4294967296+lo)%y:Nat):Int)]:=by
  intro _
  have e3:((2:Int)^32)=4294967296:=by decide
  have e1:u64.wrap (hi:Int)=hi:=aM (by omega)
  have e2:u64.wrap (lo:Int)=lo:=aM (by omega)
  have e4:u64.wrap (y:Int)=y:=aM (by omega)
  have e5:u64.wrap ((hi:Int)*4294967296)=(hi:Int)*4294967296:=aM (by omega)
  rw [e1,e3,e5,e2,e4,BI _ _ (by omega) hl]
  have e6:(hi:Int)*4294967296+lo=((hi*4294967296+lo:Nat):Int):=by omega
  rw [e6,←Int.ofNat_tdiv,←Int.ofNat_tmod]
  have hq:(hi*4294967296+lo) / y<4294967296:=by
   rw [Nat.div_lt_iff_lt_mul (by omega)]
   have:(hi+1)*4294967296<=y*4294967296:=Nat.mul_le_mul_right _ hh
   omega
  have hr:(hi*4294967296+lo)%y<y:=Nat.mod_lt _ (by omega)
  generalize (hi*4294967296+lo) / y=q at *
  generalize (hi*4294967296+lo)%y=r at *
  have e7:u64.wrap (q:Int)=q:=aM (by omega)
  have e8:u32.wrap (q:Int)=q:=po (by omega)
  have e9:u32.wrap (r:Int)=r:=po (by omega)
  rw [e7,e8,e9]
 have e4:u64.wrap (y:Int)=y:=aM (by omega)
 refine nS _ _ _ V _ ⟨fun _=>⟨fun h=>?_,fun _=>⟨by omega,by rw [e4];omega,by rw [e4];omega,fun V1 l1=>key V1⟩⟩,fun _=>⟨by omega,by rw [e4];omega,by rw [e4];omega,fun V1 l1=>key V1⟩⟩
 simp at h;omega
theorem aS {V:View}{p:OA}{n c:Nat}{ds:List Nat}(h:RD V p n c ds)(hm:ds.length<=4611686018427387904) :
  ab prog 218 #[.slice p n c] V fun r V'=>∃k,r=.slice p k c/\RD V' p k c (bV ds):=by
 refine Cp p n c V _ ?_
 refine ⟨fun z V'=>z.1=p/\z.2.2=c/\z.2.1<=ds.length/\bV (ds.take z.2.1)=bV ds/\RD V' p z.2.1 c (ds.take z.2.1),fun z=>z.2.1,⟨(p,n,c),⟨rfl,rfl,rfl⟩,rfl,rfl,?_⟩,?_⟩
 ·have:=h.len;subst this;simp;exact h
 ·rintro ⟨q,k,c'⟩ V1 l1 ⟨rfl,rfl,hk,ht,hR⟩
  dsimp only at hk ht hR ⊢
  refine ⟨rfl,fun h0=>?_,fun h0=>?_⟩
  ·have h0:0<k:=by simpa using h0
   simp (disch:=omega) only [ay]
   have hl:(ds.take k).length=k:=by simp;omega
   have hs:ds.take k=ds.take (k-1)++[ds[k-1]]:=by rw [←List.take_succ_eq_append_getElem (by omega),Nat.sub_add_cancel h0]
   refine hR.rd (k-1) (by omega) (by omega) ⟨fun hz=>?_,fun hz=>?_⟩
   ·have hz:ds[k-1]=0:=by simpa using hz
    refine ⟨⟨by omega,by have:=hR.cap;omega⟩,(q,k-1,c'),by dsimp only;omega,⟨rfl,by dsimp only;omega,rfl⟩,rfl,rfl,by dsimp only;omega,?_,?_⟩
    ·dsimp only
     rw [←ht,hs,hz,gL]
    ·have:=hR.take (k:=k-1) (by omega)
     dsimp only
     rwa [List.take_take,Nat.min_eq_left (by omega)] at this
   ·have hz:ds[k-1]≠0:=by simpa using hz
    refine fun V2 l2=>⟨k,rfl,?_⟩
    rw [←ht,hs,nN _ _ hz,←hs]
    exact hR.le l2
  ·have h0:k=0:=by simpa using h0
   subst h0
   refine fun V2 l2=>⟨0,rfl,?_⟩
   rw [←ht]
   exact hR.le l2
theorem lk {V:View}{p:OA}{n c:Nat}{ds:List Nat}(h:RD V p n c ds)(hm:ds.length<=1099511627776) :
  ab prog 217 #[.slice p n c] V fun r V'=>∃q k c',r=.slice q k c'/\RD V' q k c' ds:=by
 have hl:=h.len
 refine sw p n c V _ ⟨fun h0 V1 l1=>⟨_,_,_,rfl,?_⟩,fun h0=>⟨aD ds,h.sl,by simp [hl],by omega,by omega,by simp,by simp [hl],?_,?_⟩⟩
 ·have h0:p=none:=by simpa using h0
  subst h0
  have:ds=[]:=by
   rcases Nat.eq_zero_or_pos ds.length with e|e
   ·exact List.length_eq_zero_iff.1 e
   ·obtain ⟨ad,e,-⟩:=h.sl 0 _ (fG e)
    cases e
  subst this;exact RD.nil
 ·intro v hv
  simp only [aD,List.mem_map] at hv
  obtain ⟨d,-,rfl⟩:=hv
  rfl
 ·intro bk J sp c' h1 h2 V1 l1 b hb
  refine ⟨_,_,_,rfl,?_⟩
  simp only [Nat.zero_add,Nat.zero_mul,List.take_zero,List.nil_append] at hb h1 ⊢
  exact ⟨hl,h1,fun i v hv=>⟨_,rfl,by rw [add_zero'];exact fN hb (by rw [List.getElem?_append_left (by rcases Nat.lt_or_ge i (aD ds).length with e|e;exact e;rw [List.getElem?_eq_none e] at hv;cases hv)];exact hv)⟩,h.eu,fun e=>nomatch e⟩
abbrev RN (V:View)(p:OA)(n c:Nat)(x:Nat):Prop:=RD V p n c (ag x)
theorem il {V:View}{p:OA}{n c:Nat}{ds:List Nat}(h:RD V p n c ds)(hm:ds.length<=1099511627776) :
  ab prog 188 #[.slice p n c] V fun r V'=>∃q k c',r=.slice q k c'/\RN V' q k c' (val ds):=by
 refine Cl p n c V _ fun V1 l1=>(aS (h.le l1) (by omega)).mono ?_
 rintro r V2 l2 ⟨k,rfl,h2⟩
 refine ⟨_,_,_,rfl,fun V3 l3=>(lk (h2.le l3) (by have:=jX ds;omega)).mono ?_⟩
 rintro r V4 l4 ⟨q,k',c',rfl,h4⟩
 refine ⟨_,_,_,rfl,fun V5 l5=>⟨_,_,_,rfl,?_⟩⟩
 unfold RN
 rw [←aN h.eu]
 exact h4.le l5
theorem yV {V:View}{p:OA}{n c:Nat}{ds:List Nat}(h:RD V p n c ds)(hm:ds.length<=1099511627776) :
  ab prog 206 #[.slice p n c] V fun r V'=>r=.bool (decide (ag (val ds)=ds)):=by
 have hl:=h.len
 refine wR p n c V _ ⟨fun h0 V1 l1=>?_,fun h0=>?_⟩
 ·have:ds=[]:=List.length_eq_zero_iff.1 (by simp at h0;omega)
  subst this;rfl
 ·have h0:0<n:=by simp at h0;omega
  simp (disch:=omega) only [ay]
  refine h.rd (n-1) (by omega) (by omega) fun V1 l1=>?_
  congr 1
  rw [Bool.eq_iff_iff]
  simp only [bne_iff_ne,ne_eq,decide_eq_true_eq]
  subst hl
  constructor
  ·intro hz
   exact tQ h.eu (BD fun _=>by simpa using hz)
  ·intro he hz
   have:rD ds:=by rw [←he];exact iC _
   exact this.last (by omega) (by simpa using hz)
theorem dI {V:View}(u:Int)(h0:0<=u)(h1:u<18446744073709551616) :
  ab prog 189 #[.int .u64 u] V fun r V'=>∃q k c',r=.slice q k c'/\RN V' q k c' u.toNat:=by
 obtain ⟨u,rfl⟩:=Int.eq_ofNat_of_zero_le h0
 refine rY _ V _ ⟨by omega,fun V1 l1 bk hb=>?_⟩
 rw [kP,gW,po (by omega)] at hb
 have hb:V1.bC bk (.cells (aD [u%4294967296,u / 4294967296]).toArray 188 (0,0)):=by
  simpa [aD] using hb
 have hd:bP [u%4294967296,u / 4294967296]:=by simp [bP];omega
 refine (aS (RD.bC hb hd (n:=2) (c:=2) rfl (Nat.le_refl _)) (by simp)).mono ?_
 rintro r V2 l2 ⟨k,rfl,h2⟩
 refine ⟨_,_,_,rfl,fun _ V3 l3=>⟨_,_,_,rfl,?_⟩⟩
 rw [aN hd] at h2
 have:val [u%4294967296,u / 4294967296]=(u:Int).toNat:=by simp;omega
 rw [this] at h2
 exact h2.le l3
theorem xD {V:View}{p q:OA}{n c m e:Nat}{xa xb:List Nat}(ha:RD V p n c xa)(hb:RD V q m e xb)(hm:xa.length<=1099511627776)(hn:xb.length<=1099511627776) :
  ab prog 230 #[.slice p n c,.slice q m e] V fun r V'=>r=.int .i64 (jI (val xa) (val xb)):=by
 have la:=jX xa
 have lb:=jX xb
 refine D2 p n c q m e V _ fun V1 l1=>(aS (ha.le l1) (by omega)).mono ?_
 rintro r V2 l2 ⟨n,rfl,h1⟩
 refine ⟨_,_,_,rfl,fun V3 l3=>(aS (hb.le (l1.trans (l2.trans l3))) (by omega)).mono ?_⟩
 rintro r V4 l4 ⟨m,rfl,h2⟩
 refine ⟨_,_,_,rfl,?_⟩
 replace h1:=h1.le (l3.trans l4)
 rw [aN ha.eu] at h1 la
 rw [aN hb.eu] at h2 lb
 generalize val xa=x at *
 generalize val xb=y at *
 have hl1:=h1.len
 have hl2:=h2.len
 refine ⟨fun h0=>⟨fun h3 V5 l5=>?_,fun h3 V5 l5=>?_⟩,fun h0=>?_⟩
 ·have:=jP (a:=x) (b:=y) (by simp at h3;omega)
  rw [jI,if_pos this]
 ·have:=jP (a:=y) (b:=x) (by simp at h0 h3;omega)
  rw [jI,if_neg (by omega),if_pos this]
 ·have h0:n=m:=by simp at h0;omega
  subst h0
  simp (disch:=omega) only [ay]
  refine ⟨fun z V'=>-1<=z/\z<n/\(ag x).drop (z+1).toNat=(ag y).drop (z+1).toNat,fun z=>(z+1).toNat,⟨_,by (try dsimp only);and_intros<;>trivial,by (try dsimp only);omega,by (try dsimp only);omega,?_⟩,?_⟩
  ·(try dsimp only)
   rw [List.drop_of_length_le (by omega),List.drop_of_length_le (by omega)]
  ·rintro i V7 l7 ⟨hi0,hi1,hd⟩
   dsimp only at hi0 hi1 hd ⊢
   refine ⟨by trivial,fun h3=>?_,fun h3 V5 l5=>?_⟩
   ·have h3:0<=i:=by simpa using h3
    obtain ⟨i,rfl⟩:=Int.eq_ofNat_of_zero_le h3
    simp (disch:=omega) only [ay]
    have hd':(ag x).drop (i+1)=(ag y).drop (i+1):=hd
    refine (h1.le l7).rd i rfl (by omega) ((h2.le l7).rd i rfl (by omega) ⟨fun h4 V8 l8=>?_,fun h4=>?_⟩)
    ·have:=jg (aE x) (by omega) (by omega) hd' (by simpa using h4)
     rw [ae,ae] at this
     rw [jI,if_pos this]
    ·refine (h1.le l7).rd i rfl (by omega) ((h2.le l7).rd i rfl (by omega) ⟨fun h5 V8 l8=>?_,fun h5=>?_⟩)
     ·have:=jg (aE y) (by omega) (by omega) hd'.symm (by simpa using h5)
      rw [ae,ae] at this
      rw [jI,if_neg (by omega),if_pos this]
     ·refine ⟨_,?_,by (try dsimp only);and_intros<;>trivial,?_,?_,?_⟩
      ·(try dsimp only);omega
      ·(try dsimp only);omega
      ·(try dsimp only);omega
      ·(try dsimp only)
       have:((i:Int)-1+1).toNat=i:=by omega
       rw [this,List.drop_eq_getElem_cons (by omega),List.drop_eq_getElem_cons (l:=ag y) (by omega),hd']
       congr 1
       simp at h4 h5
       omega
   ·have h3:i=-1:=by simp at h3;omega
    subst h3
    have:ag x=ag y:=by simpa using hd
    have:=oF this
    subst this
    simp [jI]
theorem te {E A B c d x y W:Nat}(h:E+W*c=A+B)(hd:d=c+x+y):E+W*(d%4294967296)+W*4294967296*(d / 4294967296)=A+W*x+(B+W*y):=by
 have h1:W*(d%4294967296)+W*4294967296*(d / 4294967296)=W*d:=by
  rw [Nat.mul_assoc,←Nat.mul_add,Nat.mod_add_div]
 rw [Nat.add_assoc,h1,hd,Nat.mul_add,Nat.mul_add]
 omega
theorem Fp {V:View}{p q:OA}{n c m e:Nat}{xa xb:List Nat}(ha:RD V p n c xa)(hb:RD V q m e xb)(hm:xa.length<=1099511627776)(hn:xb.length<=1099511627776) :
  ab prog 228 #[.slice p n c,.slice q m e] V fun r V'=>∃p' n' c',r=.slice p' n' c'/\RN V' p' n' c' (val xa+val xb):=by
 have hla:=ha.len
 have hlb:=hb.len
 refine D1 p n c q m e V _ ⟨fun z V'=>∃xs ys,RD V' z.1 z.2.1 z.2.2.1 xs/\RD V' z.2.2.2.1 z.2.2.2.2.1 z.2.2.2.2.2 ys/\ys.length<=xs.length/\xs.length<=1099511627776/\val xs+val ys=val xa+val xb,⟨fun h0=>?_,fun h0=>?_⟩,?_⟩
 ·exact ⟨(_,_,_,_,_,_),by (try dsimp only);and_intros<;>trivial,xb,xa,hb,ha,by simp at h0;omega,hn,by omega⟩
 ·exact ⟨(_,_,_,_,_,_),by (try dsimp only);and_intros<;>trivial,xa,xb,ha,hb,by simp at h0;omega,hm,rfl⟩
 ·rintro ⟨p,n,c,q,m,e⟩ V1 l1 ⟨xs,ys,hx,hy,hl,hm,hv⟩
  dsimp only at hx hy ⊢
  rw [←hv]
  clear hv ha hb hla hlb
  have hlx:=hx.len
  have xV:=hy.len
  simp (disch:=omega) only [ay,cL]
  have hn1:((n:Int)+1).toNat=n+1:=by omega
  rw [hn1]
  refine ⟨by trivial,by omega,by omega,by omega,fun z V'=>0<=z.1/\z.1<=1/\0<=z.2.1/\z.2.1<=n/\∃es:List Nat,z.2.2=aD es/\es.length=n+1/\bP es /\
   val (es.take z.2.1.toNat)+4294967296^z.2.1.toNat*z.1.toNat=val (xs.take z.2.1.toNat)+val (ys.take z.2.1.toNat),fun z=>n-z.2.1.toNat,⟨(0,0,aD (List.replicate (n+1) 0)),by (try dsimp only);and_intros<;>trivial,by (try dsimp only);omega,by (try dsimp only);omega,by (try dsimp only);omega,by (try dsimp only);omega,_,rfl,by simp,bP.rep _,by simp⟩,?_⟩
  rintro ⟨cy,i,vs⟩ V2 l2 ⟨hc0,hc1,hi0,hi1,es,rfl,hes,hde,hv⟩
  dsimp only at hc0 hc1 hi0 hi1 hv ⊢
  obtain ⟨i,rfl⟩:=Int.eq_ofNat_of_zero_le hi0
  obtain ⟨cy,rfl⟩:=Int.eq_ofNat_of_zero_le hc0
  simp only [Int.toNat_natCast] at hv
  refine ⟨by trivial,fun h3=>?_,fun h3=>?_⟩
  ·have h3:i<n:=by simpa using h3
   refine (hx.le l2).rd i rfl (by omega) ?_
   have xT:=hx.eu.get (i:=i) (by omega)
   have next:∀d:Nat,d<8589934592->val (es.take i)+4294967296^i*(d%4294967296)+4294967296^i*4294967296*(d / 4294967296)=val (xs.take (i+1))+val (ys.take (i+1)) ->
     ∃es':List Nat,(aD es).set i (.int .u32 ((d%4294967296:Nat):Int))=aD es'/\es'.length=n+1/\bP es' /\
     val (es'.take (i+1))+4294967296^(i+1)*(d / 4294967296)=val (xs.take (i+1))+val (ys.take (i+1)):=by
    intro d hd he
    refine ⟨es.set i (d%4294967296),br _ _ _,by simpa using hes,hde.set _ _ (by omega),?_⟩
    rw [aK _ _ _ (by omega),Nat.pow_succ]
    exact he
   refine ⟨fun h4=>?_,fun h4=>?_⟩
   ·have h4:i<m:=by simpa using h4
    refine (hy.le l2).rd i rfl (by omega) ?_
    have hdy:=hy.eu.get (i:=i) (by omega)
    simp (disch:=omega) only [aM,ay,gW,kP]
    refine ⟨⟨by omega,by omega⟩,by simp;omega,by omega,(_,_,_),?_,by (try dsimp only);and_intros<;>trivial,?_⟩
    ·(try dsimp only);omega
    ·(try dsimp only)
     have hi2:((i:Int)+1).toNat=i+1:=by omega
     obtain ⟨es',e1,e2,e3,e4⟩:=next (cy+xs[i]+ys[i]) (by omega) (by rw [ax _ _ (by omega),ax _ _ (by omega)];exact te hv rfl)
     refine ⟨by omega,by omega,by omega,by omega,es',?_,e2,e3,?_⟩
     ·rw [←e1];simp
     ·rw [hi2,←e4];congr 2
   ·have h4:m<=i:=by simpa using h4
    simp (disch:=omega) only [aM,ay,gW,kP]
    refine ⟨⟨by omega,by omega⟩,by simp;omega,by omega,(_,_,_),?_,by (try dsimp only);and_intros<;>trivial,?_⟩
    ·(try dsimp only);omega
    ·(try dsimp only)
     have hi2:((i:Int)+1).toNat=i+1:=by omega
     obtain ⟨es',e1,e2,e3,e4⟩:=next (cy+xs[i]) (by omega) (by
      rw [ax _ _ (by omega),ar (ds:=ys) (i:=i+1) (by omega)]
      have:=te (y:=0) hv (d:=cy+xs[i]) rfl
      rwa [ar (ds:=ys) (by omega),Nat.mul_zero,Nat.add_zero] at this)
     refine ⟨by omega,by omega,by omega,by omega,es',?_,e2,e3,?_⟩
     ·rw [←e1];simp
     ·rw [hi2,←e4];congr 2
  ·have h3:i=n:=by simp at h3;omega
   subst h3
   simp (disch:=omega) only [po]
   refine ⟨⟨by omega,by omega⟩,by simp;omega,fun V3 l3 bk hb=>?_⟩
   have e1:(aD es).set (0+((i:Int).toNat)*1) (.int .u32 (cy:Int))=aD (es.set i cy):=by rw [←br];simp
   rw [e1] at hb
   have hd2:=hde.set i cy (by omega)
   refine (aS (RD.bC hb hd2 (n:=i+1) (c:=i+1) (by simp;omega) (Nat.le_refl _)) (by simp;omega)).mono ?_
   rintro r V4 l4 ⟨k,rfl,h4⟩
   refine ⟨_,_,_,rfl,fun _ V5 l5=>⟨_,_,_,rfl,?_⟩⟩
   rw [aN hd2] at h4
   have e2:val (es.set i cy)=val xs+val ys:=by
    have:=aK es i cy (by omega)
    rw [ar (by simp;omega)] at this
    rw [this,hv,ar (by omega),ar (by omega)]
   rw [e2] at h4
   exact h4.le l5
theorem IQ {E A B c x y W:Nat}(h:E+B=A+W*c){v:Int}(hc:c<=1)(hx:x<4294967296)(hy:y<4294967296)(hv:v=((x:Int)-(c+y))%18446744073709551616) :
  0<=v/\v / 9223372036854775808<=1/\0<=v / 9223372036854775808/\E+W*(v%4294967296).toNat+(B+W*y)=A+W*x+W*4294967296*(v / 9223372036854775808).toNat:=by
 rcases Nat.lt_or_ge x (c+y) with hl|hl
 ·have e1:v=18446744073709551616+(x:Int)-(c+y):=by omega
  have e2:(v / 9223372036854775808).toNat=1:=by omega
  have e3:(v%4294967296).toNat+(c+y)=x+4294967296:=by omega
  refine ⟨by omega,by omega,by omega,?_⟩
  rw [e2,Nat.mul_one]
  have:=congrArg (W*·) e3
  simp only [Nat.mul_add] at this
  omega
 ·have e1:v=(x:Int)-(c+y):=by omega
  have e2:(v / 9223372036854775808).toNat=0:=by omega
  have e3:(v%4294967296).toNat+(c+y)=x:=by omega
  refine ⟨by omega,by omega,by omega,?_⟩
  rw [e2,Nat.mul_zero,Nat.add_zero]
  have:=congrArg (W*·) e3
  simp only [Nat.mul_add] at this
  omega
theorem C0 {V:View}{p q:OA}{n c m e:Nat}{xs ys:List Nat}(hx:RD V p n c xs)(hy:RD V q m e ys)(hm:xs.length<=1099511627776)(hl:ys.length<=xs.length)(hle:val ys<=val xs) :
  ab prog 234 #[.slice p n c,.slice q m e] V fun r V'=>∃p' n' c',r=.slice p' n' c'/\RN V' p' n' c' (val xs-val ys):=by
 have hlx:=hx.len
 have xV:=hy.len
 refine Cn p n c q m e V _ ⟨by omega,by omega,by omega,fun z V'=>0<=z.1/\z.1<=1/\0<=z.2.1/\z.2.1<=n/\∃es:List Nat,z.2.2=aD es/\es.length=n/\bP es /\
   val (es.take z.2.1.toNat)+val (ys.take z.2.1.toNat)=val (xs.take z.2.1.toNat)+4294967296^z.2.1.toNat*z.1.toNat,fun z=>n-z.2.1.toNat,
   ⟨(0,0,List.replicate n (.int .u32 0)),by (try dsimp only);and_intros<;>trivial,by (try dsimp only);omega,by (try dsimp only);omega,by (try dsimp only);omega,by (try dsimp only);omega,List.replicate n 0,cL n,by simp,bP.rep _,by simp⟩,?_⟩
 rintro ⟨cy,i,vs⟩ V2 l2 ⟨hc0,hc1,hi0,hi1,es,rfl,hes,hde,hv⟩
 dsimp only at hc0 hc1 hi0 hi1 hv ⊢
 obtain ⟨i,rfl⟩:=Int.eq_ofNat_of_zero_le hi0
 obtain ⟨cy,rfl⟩:=Int.eq_ofNat_of_zero_le hc0
 simp only [Int.toNat_natCast] at hv
 refine ⟨by trivial,fun h3=>?_,fun h3=>?_⟩
 ·have h3:i<n:=by simpa using h3
  refine (hx.le l2).rd i rfl (by omega) ?_
  have xT:=hx.eu.get (i:=i) (by omega)
  refine ⟨fun z V'=>∃y:Nat,z=cy+y/\y<4294967296/\val (ys.take (i+1))=val (ys.take i)+4294967296^i*y,⟨fun h4=>?_,fun h4=>?_⟩,?_⟩
  ·have h4:i<m:=by simpa using h4
   refine (hy.le l2).rd i rfl (by omega) ?_
   have hdy:=hy.eu.get (i:=i) (by omega)
   simp (disch:=omega) only [aM]
   exact ⟨_,by (try dsimp only);and_intros<;>trivial,ys[i],rfl,hdy,ax _ _ (by omega)⟩
  ·have h4:m<=i:=by simpa using h4
   exact ⟨_,by (try dsimp only);and_intros<;>trivial,0,by simp,by omega,by rw [ar (by omega),ar (by omega)];simp⟩
  ·rintro t V3 l3 ⟨y,rfl,hdy,hy'⟩
   refine ⟨by trivial,⟨by omega,by simpa using h3⟩,by simp;omega,by omega,?_⟩
   simp (disch:=omega) only [aM,ay,qv,gW,IH]
   obtain ⟨v,uf⟩:∃v:Int,v=((xs[i]:Int)-((cy:Int)+(y:Int)))%18446744073709551616:=⟨_,rfl⟩
   obtain ⟨g1,g2,g3,g4⟩:=IQ hv (by omega) xT hdy uf
   rw [←uf]
   refine ⟨(_,_,_),?_,by (try dsimp only);and_intros<;>trivial,?_⟩
   ·(try dsimp only);omega
   ·(try dsimp only)
    have hi2:((i:Int)+1).toNat=i+1:=by omega
    refine ⟨g3,g2,by omega,by omega,es.set i (v%4294967296).toNat,?_,by simpa using hes,hde.set _ _ (by omega),?_⟩
    ·rw [←br]
     congr 2
     ·simp
     ·omega
    ·rw [hi2,aK _ _ _ (by omega),hy',g4,ax _ _ (by omega),Nat.pow_succ]
 ·have h3:i=n:=by simp at h3;omega
  subst h3
  intro V3 l3 bk hb
  refine (aS (RD.bC hb hde (n:=i) (c:=i) hes.symm (Nat.le_refl _)) (by omega)).mono ?_
  rintro r V4 l4 ⟨k,rfl,h4⟩
  refine ⟨_,_,_,rfl,fun _ V5 l5=>⟨_,_,_,rfl,?_⟩⟩
  rw [aN hde] at h4
  rw [ar (by omega),ar (by omega),ar (by omega)] at hv
  have e1:=fI hde
  rw [hes] at e1
  have e2:cy=0:=by
   rcases Nat.eq_zero_or_pos cy with h|h
   ·exact h
   ·have:4294967296^i*1<=4294967296^i*cy:=Nat.mul_le_mul_left _ h
    omega
  subst e2
  rw [show val es=val xs-val ys from by omega] at h4
  exact h4.le l5
theorem fv {a b:Nat}:jI a b<0↔a<b:=by
 unfold jI
 split
 ·simp;omega
 ·split<;>simp<;>omega
theorem jJ {a b:Nat}:jI a b=0↔a=b:=by
 unfold jI
 split
 ·simp;omega
 ·split
  ·simp;omega
  ·simp;omega
theorem xG {V:View}{p q:OA}{n c m e:Nat}{xa xb:List Nat}(ha:RD V p n c xa)(hb:RD V q m e xb)(hm:xa.length<=1099511627776)(hn:xb.length<=1099511627776) :
  ab prog 229 #[.slice p n c,.slice q m e] V fun r V'=>∃p' n' c',r=.tuple #[.slice p' n' c',.bool (decide (val xb<=val xa))]/\RN V' p' n' c' (val xa-val xb):=by
 refine D7 p n c q m e V _ fun V1 l1=>(xD (ha.le l1) (hb.le l1) hm hn).mono ?_
 rintro r V2 l2 rfl
 refine ⟨_,rfl,fun h0 V3 l3=>?_,fun h0 V3 l3=>?_⟩
 ·have h0:val xa<val xb:=by simpa [fv] using h0
  rw [Nat.sub_eq_zero_of_le (by omega),decide_eq_false (by omega)]
  exact ⟨_,_,_,rfl,RD.nil⟩
 ·have h0:val xb<=val xa:=by simpa [←Int.not_lt,fv] using h0
  rw [decide_eq_true h0]
  refine (aS ((ha.le l1).le (l2.trans l3)) (by omega)).mono ?_
  rintro r V4 l4 ⟨n1,rfl,h1⟩
  refine ⟨_,_,_,rfl,fun V5 l5=>(aS ((hb.le l1).le (l2.trans (l3.trans (l4.trans l5)))) (by omega)).mono ?_⟩
  rintro r V6 l6 ⟨n2,rfl,h2⟩
  rw [aN ha.eu] at h1
  rw [aN hb.eu] at h2
  have:=aZ ha.eu
  refine ⟨_,_,_,rfl,fun V7 l7=>(C0 (h1.le (l5.trans (l6.trans l7))) (h2.le l7) (by omega) (aH h0) (by rw [ae,ae];exact h0)).mono ?_⟩
  rintro r V8 l8 ⟨p',n',c',rfl,h3⟩
  rw [ae,ae] at h3
  exact ⟨_,_,_,rfl,fun V9 l9=>⟨_,_,_,rfl,h3.le l9⟩⟩
theorem Ic (a b:Nat)(ha:a<4294967296)(hb:b<4294967296):bl .or .u64 (b:Int) ((a:Int)*4294967296)=(b:Int)+(a:Int)*4294967296:=by
 have h:bl .or .u64 (b:Int) ((a:Int)*4294967296)=bl .or .u64 ((a:Int)*4294967296) (b:Int):=by
  simp only [bl,BitVec.or_comm]
 rw [h,BI a b ha hb];omega
theorem Oq (b:Nat)(hb:b<4294967296):bl .or .u64 0 (b:Int)=b:=by
 have:=BI 0 b (by omega) hb
 simpa using this
theorem kg {V:View}{p:OA}{n c:Nat}{ds:List Nat}(h:RD V p n c ds)(hm:ds.length<=1099511627776) :
  ab prog 221 #[.slice p n c] V fun r V'=>r=.tuple #[.int .u64 ((if val ds<18446744073709551616 then val ds else 0:Nat):Int),.bool (decide (val ds<18446744073709551616))]:=by
 refine Cm p n c V _ fun V1 l1=>(aS (h.le l1) (by omega)).mono ?_
 rintro r V2 l2 ⟨n,rfl,h1⟩
 rw [aN h.eu] at h1
 generalize val ds=x at *
 have hl:=h1.len
 have h2:(ag x).length<=2↔x<18446744073709551616:=aF (k:=2)
 refine ⟨_,_,_,rfl,fun h0 V3 l3=>?_,fun h0=>?_⟩
 ·have h0:¬x<18446744073709551616:=by simp at h0;omega
  rw [if_neg h0,decide_eq_false h0];rfl
 ·have hx:x<18446744073709551616:=by simp at h0;omega
  rw [if_pos hx,decide_eq_true hx]
  have hn:n<=2:=by omega
  refine ⟨fun z V'=>0<=z.2/\z.2<=n/\z.1=(val ((ag x).take z.2.toNat):Int),fun z=>n-z.2.toNat,⟨(0,0),by (try dsimp only);and_intros<;>trivial,by (try dsimp only);omega,by (try dsimp only);omega,by simp⟩,?_⟩
  rintro ⟨u,i⟩ V4 l4 ⟨hi0,hi1,hu⟩
  dsimp only at hi0 hi1 hu ⊢
  subst hu
  obtain ⟨i,rfl⟩:=Int.eq_ofNat_of_zero_le hi0
  simp only [Int.toNat_natCast]
  refine ⟨by trivial,fun h3=>?_,fun h3 V5 l5=>?_⟩
  ·have h3:i<n:=by simpa using h3
   refine (h1.le l4).rd i rfl (by omega) ?_
   have hd:=(aE x).get (i:=i) (by omega)
   simp (disch:=omega) only [ay]
   refine ⟨by omega,(_,_),?_,by (try dsimp only);and_intros<;>trivial,?_⟩
   ·(try dsimp only);omega
   ·(try dsimp only)
    refine ⟨by omega,by omega,?_⟩
    have hi2:((i:Int)+1).toNat=i+1:=by omega
    rw [hi2,ax _ _ (by omega)]
    have hi:i=0\/i=1:=by omega
    rcases hi with rfl|rfl
    ·simp (disch:=omega) only [aM]
     have e1:(min ((32:Int)*((0:Nat):Int)).toNat IntKind.u64.bits)=0:=by decide
     rw [e1]
     simp (disch:=omega) only [aM,Int.pow_zero,Int.mul_one,List.take_zero,d_,Nat.pow_zero,Nat.one_mul,Nat.zero_add]
     exact Oq _ hd
    ·have e1:(min ((32:Int)*((1:Nat):Int)).toNat IntKind.u64.bits)=32:=by decide
     have h0:0<(ag x).length:=by omega
     have hd0:=(aE x).get (i:=0) h0
     have e2:(ag x).take 1=[(ag x)[0]]:=by rw [List.take_succ_eq_append_getElem h0];rfl
     have e3:((2:Int)^32)=4294967296:=by decide
     rw [e1,e2,e3]
     simp (disch:=omega) only [aM]
     simp only [a_,d_,Nat.mul_zero,Nat.add_zero]
     rw [Ic _ _ hd hd0]
     omega
  ·have h3:i=n:=by simp at h3;omega
   subst h3
   rw [ar (by omega),ae]
theorem ik {V:View}{p:OA}{n c:Nat}{ds:List Nat}(h:RD V p n c ds)(hm:ds.length<=1099511627776) :
  ab prog 216 #[.slice p n c] V fun r V'=>r=.int .i64 (bJ (val ds):Int):=by
 have hdl:=aZ h.eu
 refine Ck p n c V _ fun V1 l1=>(aS (h.le l1) (by omega)).mono ?_
 rintro r V2 l2 ⟨n,rfl,h1⟩
 rw [aN h.eu] at h1
 generalize val ds=x at *
 have hl:=h1.len
 refine ⟨_,_,_,rfl,fun h0 V3 l3=>?_,fun h0=>?_⟩
 ·have:ag x=[]:=List.length_eq_zero_iff.1 (by simp at h0;omega)
  have:=bq.1 this
  subst this;rfl
 ·have h0:0<n:=by simp at h0;omega
  simp (disch:=omega) only [ay]
  refine h1.rd (n-1) (by omega) (by omega) fun V4 l4=>(fO _ ((aE x).get (by omega))).mono ?_
  rintro r V5 l5 rfl
  refine ⟨_,rfl,fun V6 l6=>?_⟩
  have hd:=(aE x).get (i:=n-1) (by omega)
  have hnz:(ag x)[n-1]≠0:=by
   have:=(iC x).last (by omega)
   simpa [hl] using this
  have hb:bJ (ag x)[n-1]<=32:=iS.2 (by omega)
  simp (disch:=omega) only [ay]
  have key:bJ x=32*(n-1)+bJ (ag x)[n-1]:=by
   have e:=fV (ag x) (n-1) (by omega)
   rw [ae,List.drop_of_length_le (by omega)] at e
   simp only [d_,Nat.mul_zero,Nat.add_zero] at e
   have hlt:=fI ((aE x).take (n-1))
   rw [List.length_take,Nat.min_eq_left (by omega)] at hlt
   have e32:(4294967296:Nat)^(n-1)=2^(32*(n-1)):=by rw [Nat.pow_mul]
   rw [e32] at e hlt
   generalize (ag x)[n-1]=d at *
   have g0:=oS d
   have g1:=oP hnz
   have hbp:0<bJ d:=by unfold bJ;rw [if_neg hnz];omega
   refine qI ?_ (.inr ?_)
   ·rw [Nat.pow_add]
    have:2^(32*(n-1))*(d+1)<=2^(32*(n-1))*2^bJ d:=Nat.mul_le_mul_left _ g0
    rw [Nat.mul_add,Nat.mul_one] at this
    omega
   ·rw [show 32*(n-1)+bJ d-1=32*(n-1)+(bJ d-1) from by omega,Nat.pow_add]
    have:2^(32*(n-1))*2^(bJ d-1)<=2^(32*(n-1))*d:=Nat.mul_le_mul_left _ g1
    omega
  rw [key]
  congr 1
  omega
theorem BC {E S c t x y e Y B D:Nat}(h:E+B*D*c=S+B*x*Y)(ht:t=c+x*y+e) :
  E+B*D*(t%4294967296)+B*D*4294967296*(t / 4294967296)=S+B*D*e+B*x*(Y+D*y):=by
 have h1:B*D*(t%4294967296)+B*D*4294967296*(t / 4294967296)=B*D*t:=by
  rw [Nat.mul_assoc (B*D),←Nat.mul_add,Nat.mod_add_div]
 rw [Nat.add_assoc,h1,ht]
 grind
theorem fQ {V:View}{p q:OA}{n c m e:Nat}{xa xb:List Nat}(ha:RD V p n c xa)(hb:RD V q m e xb)(hm:xa.length+xb.length<=1099511627776) :
  ab prog 209 #[.slice p n c,.slice q m e] V fun r V'=>∃p' n' c',r=.slice p' n' c'/\RN V' p' n' c' (val xa*val xb):=by
 have la:=aZ ha.eu
 have lb:=aZ hb.eu
 refine D4 p n c q m e V _ fun V1 l1=>(aS (ha.le l1) (by omega)).mono ?_
 rintro r V2 l2 ⟨n,rfl,hx⟩
 rw [aN ha.eu] at hx
 refine ⟨_,_,_,rfl,fun V3 l3=>(aS (hb.le (l1.trans (l2.trans l3))) (by omega)).mono ?_⟩
 rintro r V4 l4 ⟨m,rfl,hy⟩
 rw [aN hb.eu] at hy
 replace hx:=hx.le (l3.trans l4)
 have hlx:=hx.len
 have xV:=hy.len
 have NN:val xa=val (ag (val xa)):=(ae _).symm
 have TR:val xb=val (ag (val xb)):=(ae _).symm
 rw [NN,TR]
 clear NN TR
 generalize ag (val xa)=xs at *
 generalize ag (val xb)=ys at *
 refine ⟨_,_,_,rfl,?_⟩
 simp (disch:=omega) only [ay,cL]
 have hnm:((n:Int)+m).toNat=n+m:=by omega
 rw [hnm]
 refine ⟨by omega,by omega,by omega,fun z V'=>0<=z.1/\z.1<=n/\∃es:List Nat,z.2=aD es/\es.length=n+m/\bP es /\
  val (es.take (z.1.toNat+m))=val (xs.take z.1.toNat)*val ys,fun z=>n-z.1.toNat,⟨(0,aD (List.replicate (n+m) 0)),by (try dsimp only);and_intros<;>trivial,by (try dsimp only);omega,by (try dsimp only);omega,_,rfl,by simp,bP.rep _,by simp [sS,List.take_replicate]⟩,?_⟩
 rintro ⟨i,vs⟩ V5 l5 ⟨hi0,hi1,es,rfl,hes,hde,hv⟩
 dsimp only at hi0 hi1 hv ⊢
 obtain ⟨i,rfl⟩:=Int.eq_ofNat_of_zero_le hi0
 simp only [Int.toNat_natCast] at hv
 refine ⟨by trivial,fun h3=>?_,fun h3=>?_⟩
 ·have h3:i<n:=by simpa using h3
  refine (hx.le l5).rd i rfl (by omega) ?_
  have xT:=hx.eu.get (i:=i) (by omega)
  refine ⟨fun z V'=>0<=z.1/\z.1<=4294967295/\0<=z.2.1/\z.2.1<=m/\∃fs:List Nat,z.2.2=aD fs/\fs.length=n+m/\bP fs/\fs.drop (i+z.2.1.toNat)=es.drop (i+z.2.1.toNat) /\
   val (fs.take (i+z.2.1.toNat))+4294967296^(i+z.2.1.toNat)*z.1.toNat=val (es.take (i+z.2.1.toNat))+4294967296^i*xs[i]*val (ys.take z.2.1.toNat),fun z=>m-z.2.1.toNat,
   ⟨(0,0,aD es),by (try dsimp only);and_intros<;>trivial,by (try dsimp only);omega,by (try dsimp only);omega,by (try dsimp only);omega,by (try dsimp only);omega,es,rfl,hes,hde,rfl,by simp⟩,?_⟩
  rintro ⟨cy,k,vs⟩ V6 l6 ⟨hc0,hc1,hk0,hk1,fs,rfl,hfs,hdf,hdr,hw⟩
  dsimp only at hc0 hc1 hk0 hk1 hdr hw ⊢
  obtain ⟨k,rfl⟩:=Int.eq_ofNat_of_zero_le hk0
  obtain ⟨cy,rfl⟩:=Int.eq_ofNat_of_zero_le hc0
  simp only [Int.toNat_natCast] at hdr hw
  refine ⟨by trivial,fun h4=>?_,fun h4=>?_⟩
  ·have h4:k<m:=by simpa using h4
   refine (hy.le (l5.trans l6)).rd k rfl (by omega) ?_
   have hdy:=hy.eu.get (i:=k) (by omega)
   have QO:=hdf.get (i:=i+k) (by omega)
   have hef:fs[i+k]'(by omega)=es[i+k]'(by omega):=by
    have h1:fs[i+k]?=es[i+k]?:=by
     have:=congrArg (fun l=>l[0]?) hdr
     simpa [List.getElem?_drop] using this
    rw [List.getElem?_eq_getElem (by omega),List.getElem?_eq_getElem (by omega)] at h1
    exact Option.some.inj h1
   simp (disch:=omega) only [ay]
   have hik:((i:Int)+k).toNat=i+k:=by omega
   rw [hik]
   refine ⟨⟨by omega,by omega⟩,((fs[i+k]'(by omega):Nat):Int),by rw [Nat.zero_add,Nat.mul_one];exact fG (by omega),⟨by omega,by omega⟩,by simp;omega,by omega,?_⟩
   have hxy:xs[i]*ys[k]<=4294967295*4294967295:=Nat.mul_le_mul (by omega) (by omega)
   have LJ:(xs[i]:Int)*(ys[k]:Int)=((xs[i]*ys[k]:Nat):Int):=by simp
   obtain ⟨t,ht⟩:∃t:Nat,t=cy+xs[i]*ys[k]+fs[i+k]'(by omega):=⟨_,rfl⟩
   rw [Nat.pow_add] at hw
   have hstep:=BC hw ht
   have e1:u64.wrap ((cy:Int)+u64.wrap (u64.wrap (u64.wrap (xs[i]:Int)*u64.wrap (ys[k]:Int))+u64.wrap ((fs[i+k]'(by omega):Nat):Int)))=(t:Int):=by
    clear hstep
    generalize xs[i]*ys[k]=pq at *
    rw [aM (x:=(xs[i]:Int)) (by omega),aM (x:=(ys[k]:Int)) (by omega),LJ,aM (x:=((pq:Nat):Int)) (by omega)]
    simp (disch:=omega) only [aM]
    omega
   rw [e1,gW,kP]
   refine ⟨(_,_,_),?_,by (try dsimp only);and_intros<;>trivial,?_⟩
   ·(try dsimp only);omega
   ·(try dsimp only)
    have hk2:((k:Int)+1).toNat=k+1:=by omega
    refine ⟨by omega,by omega,by omega,by omega,fs.set (i+k) (t%4294967296),?_,by simpa using hfs,hdf.set _ _ (by omega),?_,?_⟩
    ·rw [←br];simp
    ·rw [hk2,List.drop_set_of_lt (by omega)]
     have:=congrArg (List.drop 1) hdr
     simpa [List.drop_drop,Nat.add_comm,Nat.add_assoc,Nat.add_left_comm] using this
    ·rw [hk2,show i+(k+1)=i+k+1 from by omega,aK _ _ _ (by omega),ax es (i+k) (by omega),ax ys k (by omega),←hef,Nat.pow_succ]
     have e2:((t:Int) / 4294967296).toNat=t / 4294967296:=by omega
     rw [e2,Nat.pow_add,hstep]
  ·have h4:k=m:=by simp at h4;omega
   subst h4
   simp (disch:=omega) only [ay]
   have hik:((i:Int)+k).toNat=i+k:=by omega
   rw [hik]
   refine ⟨⟨by omega,by omega⟩,by simp;omega,(_,_),?_,by (try dsimp only);and_intros<;>trivial,?_⟩
   ·(try dsimp only);omega
   ·(try dsimp only)
    have hi2:((i:Int)+1).toNat=i+1:=by omega
    refine ⟨by omega,by omega,fs.set (i+k) cy,?_,by simpa using hfs,hdf.set _ _ (by omega),?_⟩
    ·rw [←br,po (by omega)];simp
    ·rw [hi2,show i+1+k=i+k+1 from by omega,aK _ _ _ (by omega),hw,hv,ax xs i (by omega),ar (ds:=ys) (by omega)]
     grind
 ·have h3:i=n:=by simp at h3;omega
  subst h3
  intro V6 l6 bk hb'
  refine (aS (RD.bC hb' hde (n:=i+m) (c:=i+m) (by omega) (Nat.le_refl _)) (by omega)).mono ?_
  rintro r V7 l7 ⟨k,rfl,h4⟩
  refine ⟨_,_,_,rfl,fun _ V8 l8=>⟨_,_,_,rfl,?_⟩⟩
  rw [aN hde] at h4
  rw [ar (by omega),ar (by omega)] at hv
  rw [hv] at h4
  exact h4.le l8
theorem uQ {x A d q r rest B W:Nat}(hA:A=d*B+rest)(h:d*q+r=rest*W+x):x+W*A=d*(q+W*B)+r:=by
 subst hA;grind
theorem AW {V:View}{p:OA}{n c:Nat}{xs:List Nat}(hx:RD V p n c xs)(hm:xs.length<=1099511627776)(d:Nat)(hd0:d≠0)(hd:d<4294967296) :
  ab prog 231 #[.slice p n c,.int .u32 (d:Int)] V fun r V'=>∃p' n' c',r=.tuple #[.slice p' n' c',.int .u32 ((val xs%d:Nat):Int)]/\RN V' p' n' c' (val xs / d):=by
 have hlx:=hx.len
 refine Af p n c d V _ ⟨by omega,by omega,by omega,?_⟩
 simp (disch:=omega) only [ay,aM,Int.toNat_natCast,cL]
 refine ⟨fun z V'=>0<=z.1/\z.1<d/\-1<=z.2.1/\z.2.1<n/\∃es:List Nat,z.2.2=aD es/\es.length=n/\bP es /\
   val (xs.drop (z.2.1+1).toNat)=d*val (es.drop (z.2.1+1).toNat)+z.1.toNat,fun z=>(z.2.1+1).toNat,
   ⟨(0,(n:Int)-1,aD (List.replicate n 0)),by (try dsimp only);and_intros<;>trivial,by (try dsimp only);omega,by (try dsimp only);omega,by (try dsimp only);omega,by (try dsimp only);omega,_,rfl,by simp,bP.rep _,?_⟩,?_⟩
 ·(try dsimp only)
  rw [List.drop_of_length_le (by omega),List.drop_of_length_le (by simp)];rfl
 rintro ⟨rest,i,vs⟩ V2 l2 ⟨hr0,hr1,hi0,hi1,es,rfl,hes,hde,hv⟩
 dsimp only at hr0 hr1 hi0 hi1 hv ⊢
 obtain ⟨rest,rfl⟩:=Int.eq_ofNat_of_zero_le hr0
 refine ⟨by trivial,fun h3=>?_,fun h3=>?_⟩
 ·have h3:0<=i:=by simpa using h3
  obtain ⟨i,rfl⟩:=Int.eq_ofNat_of_zero_le h3
  have hi2:((i:Int)+1).toNat=i+1:=by omega
  rw [hi2] at hv
  simp only [Int.toNat_natCast] at hv
  refine ⟨by omega,(hx.le l2).rd i rfl (by omega) ?_⟩
  have xT:=hx.eu.get (i:=i) (by omega)
  have e1:bl .or .u64 (u64.wrap ((rest:Int)*2^32)) (u64.wrap ((xs[i]:Nat):Int))=((rest*4294967296+xs[i]:Nat):Int):=by
   have e3:((2:Int)^32)=4294967296:=by decide
   rw [e3,aM (by omega),aM (by omega),BI _ _ (by omega) xT];omega
  rw [e1]
  have e2:((rest*4294967296+xs[i]:Nat):Int).tdiv (d:Int)=(((rest*4294967296+xs[i]) / d:Nat):Int):=by
   rw [Int.tdiv_eq_ediv_of_nonneg (by omega)];omega
  have e4:((rest*4294967296+xs[i]:Nat):Int).tmod (d:Int)=(((rest*4294967296+xs[i])%d:Nat):Int):=by
   rw [Int.tmod_eq_emod_of_nonneg (by omega)];omega
  rw [e2,e4]
  have hq:(rest*4294967296+xs[i]) / d<4294967296:=by
   rw [Nat.div_lt_iff_lt_mul (by omega)]
   have:rest+1<=d:=by omega
   have:=Nat.mul_le_mul_right 4294967296 this
   rw [Nat.mul_comm 4294967296 d]
   omega
  have hr:(rest*4294967296+xs[i])%d<d:=Nat.mod_lt _ (by omega)
  have Gt:=Nat.div_add_mod (rest*4294967296+xs[i]) d
  generalize (rest*4294967296+xs[i]) / d=q at *
  generalize (rest*4294967296+xs[i])%d=r at *
  simp (disch:=omega) only [aM,po,ay]
  refine ⟨by omega,⟨by omega,by omega⟩,by simp;omega,by omega,?_⟩
  refine ⟨((r:Int),(i:Int)-1,aD (es.set i q)),?_,?_,?_⟩
  ·(try dsimp only);omega
  ·(try dsimp only);and_intros<;>first|trivial|(rw [←br];simp)
  ·(try dsimp only)
   refine ⟨by omega,by omega,by omega,by omega,_,rfl,by simpa using hes,hde.set _ _ (by omega),?_⟩
   have hi3:((i:Int)-1+1).toNat=i:=by omega
   rw [hi3,List.drop_eq_getElem_cons (by omega),List.drop_eq_getElem_cons (l:=es.set i q) (by simp;omega),List.getElem_set_self,List.drop_set_of_lt (by omega)]
   have h9:xs[i]+4294967296*val (List.drop (i+1) xs)=d*(q+4294967296*val (List.drop (i+1) es))+r:=uQ hv Gt
   rw [a_,a_,Int.toNat_natCast]
   exact h9
 ·have h3:i=-1:=by simp at h3;omega
  subst h3
  simp only [Int.toNat_natCast] at hv
  have hv:val xs=d*val es+rest:=by simpa using hv
  intro V3 l3 bk hb
  refine (aS (RD.bC hb hde (n:=n) (c:=n) (by omega) (Nat.le_refl _)) (by omega)).mono ?_
  rintro r V4 l4 ⟨k,rfl,h4⟩
  refine ⟨_,_,_,rfl,fun _ V5 l5=>?_⟩
  have e1:val xs / d=val es:=by rw [hv,Nat.mul_add_div (by omega),Nat.div_eq_of_lt (by omega),Nat.add_zero]
  have e2:val xs%d=rest:=by rw [hv,Nat.mul_add_mod,Nat.mod_eq_of_lt (by omega)]
  rw [po (by omega),e1,e2]
  rw [aN hde] at h4
  exact ⟨_,_,_,rfl,h4.le l5⟩
theorem Dz (a b:Nat)(ha:a<4294967296)(hb:b<4294967296):bl .or .u32 (a:Int) (b:Int)=((a ||| b:Nat):Int):=by
 rw [bl,gW]
 have h2:(BitVec.ofInt IntKind.u32.bits ((a:Nat):Int) ||| BitVec.ofInt IntKind.u32.bits (b:Int)).toNat=a ||| b:=by
  show (BitVec.ofInt 32 ((a:Nat):Int) ||| BitVec.ofInt 32 (b:Int)).toNat=_
  rw [BitVec.ofInt_natCast,BitVec.ofInt_natCast,BitVec.toNat_or,BitVec.toNat_ofNat,BitVec.toNat_ofNat,Nat.mod_eq_of_lt (by omega),Nat.mod_eq_of_lt (by omega)]
 have h3:a ||| b<2^32:=Nat.or_lt_two_pow (by omega) (by omega)
 rw [h2]
 omega
theorem L9 {c m r:Nat}(h:c<2^r):c ||| m*2^r=c+m*2^r:=by
 rw [Nat.or_comm,←Nat.shiftLeft_eq,←Nat.shiftLeft_add_eq_or_of_lt h,Nat.add_comm]
theorem B3 {d r c:Nat}(hd:d<4294967296)(hr:r<32)(hc:c<2^r) :
  c ||| (d*2^r%4294967296)=c+d*2^r%4294967296/\c+d*2^r%4294967296<4294967296/\d*2^r / 4294967296<2^r/\d*2^r<18446744073709551616:=by
 have e:4294967296=2^(32-r)*2^r:=by rw [←Nat.pow_add,Nat.sub_add_cancel (by omega)]
 have h1:d*2^r%4294967296=(d%2^(32-r))*2^r:=by
  rw [e,Nat.mul_mod_mul_right]
 have h2:d%2^(32-r)+1<=2^(32-r):=Nat.mod_lt _ (Nat.two_pow_pos _)
 have h3:=Nat.mul_le_mul_right (2^r) h2
 have h4:2^r<=2^31:=Nat.pow_le_pow_right (by omega) (by omega)
 have h5:d*2^r<4294967296*2^r:=Nat.mul_lt_mul_of_pos_right hd (Nat.two_pow_pos _)
 refine ⟨by rw [h1,L9 hc],?_,?_,by omega⟩
 ·rw [h1]
  rw [Nat.add_mul,Nat.one_mul] at h3
  rw [←e] at h3
  omega
 ·rw [Nat.div_lt_iff_lt_mul (by omega),Nat.mul_comm (2^r)];exact h5
theorem xF {V:View}{p:OA}{n c:Nat}{ds:List Nat}(h:RD V p n c ds)(hm:ds.length<=1099511627776)(k:Nat)(hk:k<=1048576) :
  ab prog 235 #[.slice p n c,.int .u64 (k:Int)] V fun r V'=>∃p' n' c',r=.slice p' n' c'/\RN V' p' n' c' (val ds*2^k)/\(val ds=0\/c'=(ag (val ds)).length+k / 32+1):=by
 have hdl:=aZ h.eu
 refine D5 p n c k V _ fun V1 l1=>(aS (h.le l1) (by omega)).mono ?_
 rintro r V2 l2 ⟨n,rfl,hx⟩
 rw [aN h.eu] at hx
 generalize hxv:val ds=x at *
 have hl:=hx.len
 refine ⟨_,_,_,rfl,fun h0 V3 l3=>?_,fun h0=>?_⟩
 ·have:ag x=[]:=List.length_eq_zero_iff.1 (by simp at h0;omega)
  have:=bq.1 this
  subst this
  rw [Nat.zero_mul]
  exact ⟨_,_,_,rfl,RD.nil,.inl rfl⟩
 ·have h0:0<n:=by simp at h0;omega
  have e1:bN (k:Int) 1048576=k:=by unfold bN;rw [if_neg (by omega)]
  have e2:(k:Int).tdiv 32=((k / 32:Nat):Int):=by rw [Int.tdiv_eq_ediv_of_nonneg (by omega)];omega
  have e3:(k:Int).tmod 32=((k%32:Nat):Int):=by rw [Int.tmod_eq_emod_of_nonneg (by omega)];omega
  rw [e1,e2,e3]
  have hk2:x*2^k=4294967296^(k / 32)*x*2^(k%32):=by
   have:2^k=4294967296^(k / 32)*2^(k%32):=by
    rw [show (4294967296:Nat)=2^32 from rfl,←Nat.pow_mul,←Nat.pow_add,Nat.div_add_mod]
   rw [this];grind
  rw [hk2]
  generalize hw:k / 32=w at *
  have hrl:k%32<32:=Nat.mod_lt _ (by omega)
  have hwl:w<=32768:=by omega
  generalize k%32=r at *
  clear e1 e2 e3
  simp (disch:=omega) only [ay,aM,cL]
  have hnw:((n:Int)+w+1).toNat=n+w+1:=by omega
  rw [hnw]
  refine ⟨by omega,by omega,by omega,by omega,by omega,fun z V'=>0<=z.1/\z.1<=n/\∃es:List Nat,z.2=aD es/\es.length=n+w+1/\bP es/\(∀c,es[z.1.toNat+w]?=some c->c<2^r) /\
   val (es.take (z.1.toNat+w+1))=4294967296^w*val ((ag x).take z.1.toNat)*2^r,fun z=>n-z.1.toNat,
   ⟨(0,aD (List.replicate (n+w+1) 0)),by (try dsimp only);and_intros<;>trivial,by (try dsimp only);omega,by (try dsimp only);omega,_,rfl,by simp,bP.rep _,?_,?_⟩,?_⟩
  ·intro c hc
   rw [List.getElem?_replicate] at hc
   split at hc
   ·cases hc;exact Nat.two_pow_pos r
   ·cases hc
  ·simp [List.take_replicate,sS]
  rintro ⟨i,vs⟩ V4 l4 ⟨hi0,hi1,es,rfl,hes,hde,hc,hv⟩
  dsimp only at hi0 hi1 hc hv ⊢
  obtain ⟨i,rfl⟩:=Int.eq_ofNat_of_zero_le hi0
  simp only [Int.toNat_natCast] at hc hv
  refine ⟨by trivial,fun h3=>?_,fun h3=>?_⟩
  ·have h3:i<n:=by simpa using h3
   refine (hx.le l4).rd i rfl (by omega) ?_
   have xT:=(aE x).get (i:=i) (by omega)
   have hce:=hc (es[i+w]'(by omega)) (List.getElem?_eq_getElem _)
   obtain ⟨g1,g2,g3,g4⟩:=B3 xT hrl hce
   have hmin:(min ((r:Nat):Int).toNat IntKind.u64.bits)=r:=by
    show min _ 64=r
    omega
   have hp:((2:Int)^r)=((2^r:Nat):Int):=by simp
   rw [hmin,hp]
   have hmul:(((ag x)[i]:Nat):Int)*((2^r:Nat):Int)=(((ag x)[i]*2^r:Nat):Int):=by simp
   simp (disch:=omega) only [ay]
   rw [aM (x:=(((ag x)[i]:Nat):Int)) (by omega),hmul,aM (by omega),gW,kP]
   have hiw:((i:Int)+w).toNat=i+w:=by omega
   have QW:((i:Int)+w+1).toNat=i+w+1:=by omega
   rw [hiw,QW]
   refine ⟨by omega,⟨by omega,by omega⟩,((es[i+w]'(by omega):Nat):Int),by rw [Nat.zero_add,Nat.mul_one];exact fG (by omega),⟨by omega,by omega⟩,by simp;omega,by omega,⟨by omega,by omega⟩,by simp;omega,?_⟩
   have ec:(((ag x)[i]*2^r:Nat):Int)%4294967296=(((ag x)[i]*2^r%4294967296:Nat):Int):=by omega
   have ed:(((ag x)[i]*2^r:Nat):Int) / 4294967296=(((ag x)[i]*2^r / 4294967296:Nat):Int):=by omega
   rw [ec,ed,Dz _ _ (by omega) (by omega),g1]
   have Gt:=Nat.mod_add_div ((ag x)[i]*2^r) 4294967296
   have hd2:(ag x)[i]*2^r / 4294967296<4294967296:=by omega
   have hdr:val (List.take (i+1) (ag x))=val (List.take i (ag x))+4294967296^i*(ag x)[i]:=ax _ _ (by omega)
   have Lr:val (es.take (i+w+1))=val (es.take (i+w))+4294967296^(i+w)*es[i+w]'(by omega):=ax _ _ (by omega)
   generalize (ag x)[i]*2^r%4294967296=lo at *
   generalize hhi:(ag x)[i]*2^r / 4294967296=hi at *
   rw [po (by omega)]
   refine ⟨((i:Int)+1,aD ((es.set (i+w) (es[i+w]'(by omega)+lo)).set (i+w+1) hi)),?_,?_,?_⟩
   ·(try dsimp only);omega
   ·(try dsimp only);and_intros<;>first|trivial|(rw [←br,←br];simp)
   ·(try dsimp only)
    have hi2:((i:Int)+1).toNat=i+1:=by omega
    refine ⟨by omega,by omega,_,rfl,by simpa using hes,(hde.set _ _ (by omega)).set _ _ (by omega),?_,?_⟩
    ·intro c hc'
     rw [hi2,show i+1+w=i+w+1 from by omega,List.getElem?_set_self (by simp;omega)] at hc'
     cases hc';exact g3
    ·rw [hi2,show i+1+w+1=i+w+1+1 from by omega,aK _ _ _ (by simp;omega),aK _ _ _ (by omega),hdr]
     rw [Lr] at hv
     have hA:4294967296^(i+w+1)*hi=4294967296^(i+w)*(4294967296*hi):=by rw [Nat.pow_succ];grind
     rw [hA,Nat.mul_add,←Nat.add_assoc,hv,Nat.add_assoc,←Nat.mul_add,Gt,Nat.pow_add]
     grind
  ·have h3:i=n:=by simp at h3;omega
   subst h3
   intro V5 l5 bk hb
   refine (aS (RD.bC hb hde (n:=i+w+1) (c:=i+w+1) (by omega) (Nat.le_refl _)) (by omega)).mono ?_
   rintro r' V6 l6 ⟨k',rfl,h4⟩
   refine ⟨_,_,_,rfl,fun _ V7 l7=>⟨_,_,_,rfl,?_,.inr (by omega)⟩⟩
   rw [ar (by omega),ar (by omega),ae] at hv
   rw [aN hde,hv] at h4
   exact h4.le l7
end Go.Proofs.Tryz
