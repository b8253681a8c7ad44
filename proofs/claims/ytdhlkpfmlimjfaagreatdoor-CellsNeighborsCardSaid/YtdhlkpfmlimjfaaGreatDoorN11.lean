import Derived.Test.YtdhlkpfmlimjfaaGreatDoorN6
import Derived.Test.YtdhlkpfmlimjfaaGreatDoorCards
import Derived.Test.YtdhlkpfmlimjfaaGreatDoorTie
import Derived.WalkKit
import Derived.ProofKit
import Derived.OpenShut
import Derived.Deep.DeepHandedRow
import Derived.LaidLaws
import Derived.Lay
import Derived.Carry
import Derived.LaidEql
import Derived.Stop.Asserts
import Derived.RowKitTokens
import Derived.IntWalk
import Derived.Test.YtdhlkpfmlimjfaaGreatDoorN7
set_option linter.unusedVariables false
open Go.IntKind (i64 u64 u32)
namespace Go.Proofs.YtdhlkpfmlimjfaaGreatDoor
open Go.ChangeShapes Go.WideShapes Go.ChangeAt Go.RowKit Go.Eng
theorem own:ownKnob Tryz.prog.godebug=none:=by kernel_rfl
theorem star : "*" ++ "errors.errorString" = "*errors.errorString" := by decide
theorem T4 (u : TypeId)(h : Tryz.prog.typeName? 3 u = some "*errors.errorString") : u = 335 :=
 typeName_ptr_named (nm := "errors.errorString") (by rw [star]; kernel_rfl) (by kernel_rfl) (by decide) u (by rw [star]; exact h)
theorem MS:Tryz.prog.cellsOf 360=1:=by kernel_rfl
theorem MT:Tryz.prog.cellsOf 9=1:=by kernel_rfl
theorem T3 (g:Nat):MemPlace.cell g 0∈MemPlace.row ⟨g,0,none⟩ 1:=by simp [MemPlace.row]
theorem LL {P:Program}{W:World}{name:String}{g:Nat}{v:Value}(hg:P.globalNamed name=some g)(h:W.var? P name=some #[v]):W.cell? ⟨g,0,none⟩=some v:=by simpa using World.var?_cell hg h 0
set_option maxRecDepth 100000 in
theorem pE {W:World}{l:List (String×DataW Unit)}{name:String}{text:List UInt8}{g:Nat}(hg:Tryz.prog.globalNamed name=some g)(hty:(Tryz.prog.globals[g]?).map (·.type)=some 29)
  (hm : (name, .iface "*errors.errorString" (.ptr (.agg [.lit (.string text)]))) ∈ l)(h : laidMet Tryz.prog l W) :
  ∃a,W.cell? ⟨g,0,none⟩=some (.iface 335 (.pointer (some a))):=by
 obtain ⟨k,hv,-,c⟩:=h
 induction l generalizing k with
 | nil=>cases hm
 | cons x r ih=>
  obtain ⟨n,d⟩:=x;obtain ⟨A,t,cs,fuel,p,q,i,m,f,o,w,rfl⟩:=hv;rcases List.mem_cons.1 hm with e|hm
  ·cases e;obtain rfl:=Option.some.inj (hg.symm.trans i);obtain rfl:=Option.some.inj (hty.symm.trans m);obtain ⟨y⟩:=cs
   have j:∀u v,y=[.iface u v]->Value.okWide Tryz.prog W .any 0 u v:=fun u v e=>by
    subst e;exact (c g 0 (List.mem_append_left _ (List.mem_append_left _ (T3 g)))).2 u v (LL hg f)
   obtain ⟨a,s,rfl,-⟩:=errorString_of_trod Tryz.underlying29 T4 Tryz.underlying335 Tryz.underlying360 rfl rfl Tryz.underlying9 MS MT o j;exact ⟨a,LL hg f⟩
  ·exact ih hm q w fun b off z=>c b off (List.mem_append_right _ z)
def View.all (W:World):View:=⟨W,fun _=>False,fun _=>False,fun _ h=>h.elim,fun _ h=>h⟩
theorem Cg {w w':World}(h:eK (fun _=>False) w w')(may:MemPlace->Prop):w.keptBut w' may:=by
 refine ⟨h.os,h.out,fun i a=>?_⟩;rw [h.aS i a (fun h=>h)]
 cases w.heap[i]? with
 | none=>rfl
 | some o=>cases o<;>simp
theorem wV {f:FuncId}{args:Array Value}{W:World}{R:Value->Prop}(h:Acts Tryz.prog f args (View.all W) fun r _=>R r):Calls Tryz.prog f args W fun e w'=>∃r,e=.returned r/\R r/\eK (fun _=>False) W w':=
 h.2.mono fun e w' ⟨r,he,a,b⟩=>⟨r,he,b,a⟩
theorem laidOut:laidOutB Tryz.prog=true:=by kernel_rfl
theorem zD {w w':World}(h:eK (fun _=>False) w w'):Below w.heap.size w w':=⟨h.os,h.tape,h.out,h.size,fun k a=>h.aS k a (fun h=>h)⟩
theorem F_ {P:Program}(hlo:laidOutB P=true){H:Type}{enc:TypeId×Value->H}{W W':World}(hb:Below W.heap.size W W')(ts:List TypeId):∀{vs:List Value} {ds:List (DataW H)} {ps:List MemPlace},
  (ts.all fun t=>P.readableRec t&&decide (t<P.types.size))=true->DataW.TrodAll enc P W 0 (fun _=>true) true ts vs ds ps->(∀x∈ps,x.block<W.heap.size) ->
   DataW.TrodAll enc P W' 0 (fun b=>decide (b<W.heap.size)) true ts vs ds ps:=by
 induction ts with
 | nil=>
  intro vs ds ps _ h _;obtain ⟨rfl,rfl,rfl⟩:=trodAll_nil h;exact trodAll_mk0
 | cons t ts ih=>
  intro vs ds ps c h a;obtain ⟨v,f,d,g,p,q,rfl,rfl,rfl,i,j⟩:=trodAll_cons h;simp only [List.all_cons,Bool.and_eq_true,decide_eq_true_eq] at c;exact trodAll_cons_mk (Below.trod hlo c.1.1 c.1.2 i hb fun x e=>a x (List.mem_append_left _ e)) (ih c.2 j fun x e=>a x (List.mem_append_right _ e))
set_option maxRecDepth 100000 in
theorem K3 {H:Type}{enc:TypeId×Value->H}{Vm:FuncId}{f:Func}{s:ChangeSpec}{W:World}{args:Array Value}{ds gs:List (DataW H)}{before:List MemPlace}{fresh handsOn:Bool}
  (hW:DataW.Whole enc Tryz.prog f.params.toList s.vars false W args.toList ds gs before)(hvars:s.vars=[])(hts:(f.params.toList.all fun t=>Tryz.prog.readableRec t&&decide (t<Tryz.prog.types.size))=true)
  (hres:f.resultTypes=#[4])(hs:s.fn H (ds++gs)={ results:=[.lit (.bool true)],args:=ds })
  (h:Acts Tryz.prog Vm args (View.all W) fun r _=>r=.bool true):Calls Tryz.prog Vm args W fun e W'=>∃v,e=.returned v/\s.post enc Tryz.prog f false fresh handsOn false W args v W':=by
 refine (wV h).mono fun e W' ⟨r,he,g,a⟩=>?_;subst he g;have b:=hW;obtain ⟨p,q,i,d,rfl,-,-⟩:=hW;rw [hvars] at d;obtain ⟨rfl,rfl⟩:=trodVars_none d;have c:∀x∈p++[],x.block<W.heap.size:=fun x a=>b.lt x a;refine ⟨_,rfl,ds,_,p++[],[],p++[],[],b,?_,?_,?_,Cg a _,fun h=>nomatch h⟩
 ·rw [hs,hres];exact trodAll_cons_mk (shut_bool Tryz.underlying4 _) trodAll_mk0
 ·rw [hs,List.append_nil];exact F_ laidOut (zD a) _ hts i fun x a=>c x (by rw [List.append_nil];exact a)
 ·rw [hs,hvars];rfl
set_option maxRecDepth 100000 in
theorem CI {H:Type}{enc:TypeId×Value->H}{W:World}{p:OA}{n c:Nat}{d:DataW H}{ps:List MemPlace}
  (h:DataW.Trod enc Tryz.prog W 0 (fun _=>true) true 22 (.slice p n c) d ps):n<=c/\∀i,i<n->∃(a:Addr)(x:Int),addrAdd p (i*1)=some a/\(View.all W).at a (.int .i64 x):=by
 obtain ⟨fuel,k⟩:=h;rcases open_ints Tryz.underlying22 Tryz.underlying3 (show Tryz.prog.cellsOf 3=1 by kernel_rfl) k with ⟨b,-⟩|⟨a,f,g,o,b,_,l,-,m,-,e,-⟩
 ·simp [Value.cells] at b;obtain ⟨rfl,rfl,rfl⟩:=b;exact ⟨Nat.le_refl _,fun i j=>absurd j (by omega)⟩
 ·simp [Value.cells] at b;obtain ⟨rfl,rfl,rfl⟩:=b;simp only [if_true] at m;exact ⟨l,fun i j=>⟨a.add i,_,by rw [Nat.mul_one];rfl,fun h=>h,e i (by omega)⟩⟩
end Go.Proofs.YtdhlkpfmlimjfaaGreatDoor
namespace Go.Big
def val:List Nat->Nat
 | []=>0
 | d::r=>d+4294967296*val r
def bM (ds:List Nat):Prop:=∀d∈ds,d<4294967296
def bW:List Nat->List Nat
 | []=>[]
 | d::r=>if bW r=[]/\d=0 then [] else d::bW r
def rY (ds:List Nat):Prop:=bW ds=ds
def ur:Nat->Nat->List Nat
 | 0,_=>[]
 | f+1,n=>if n=0 then [] else n%4294967296::ur f (n / 4294967296)
def af (n:Nat):List Nat:=ur n n
@[simp] theorem eh:val []=0:=rfl
@[simp] theorem aY (d:Nat)(r:List Nat):val (d::r)=d+4294967296*val r:=rfl
theorem bM.nil:bM []:=fun _ h=>nomatch h
theorem bM.cons {d:Nat}{r:List Nat}:bM (d::r)↔d<4294967296/\bM r:=by simp [bM]
theorem bM.append {a b:List Nat}:bM (a++b)↔bM a/\bM b:=by simp [bM,or_imp,forall_and]
theorem bM.take {a:List Nat}(h:bM a)(k:Nat):bM (a.take k):=fun d b=>h d (List.mem_of_mem_take b)
theorem bM.drop {a:List Nat}(h:bM a)(k:Nat):bM (a.drop k):=fun d b=>h d (List.mem_of_mem_drop b)
theorem bM.set {a:List Nat}(h:bM a)(k x:Nat)(hx:x<4294967296):bM (a.set k x):=fun d c=>by
 rcases List.mem_or_eq_of_mem_set c with b|b
 ·exact h d b
 ·exact b▸hx
theorem bM.get {a:List Nat}(h:bM a){i:Nat}(hi:i<a.length):a[i]<4294967296:=h _ (List.getElem_mem hi)
theorem bM.rep (n:Nat):bM (List.replicate n 0):=fun d a=>by rw [List.eq_of_mem_replicate a];omega
theorem cY (a b:List Nat):val (a++b)=val a+4294967296^a.length*val b:=by
 induction a with
 | nil=>simp
 | cons d r ih=>simp only [List.cons_append,aY,ih,List.length_cons,Nat.pow_succ];grind
theorem fW {ds:List Nat}(h:bM ds):val ds<4294967296^ds.length:=by
 induction ds with
 | nil=>simp
 | cons d r ih=>
  have a:=bM.cons.1 h;have:=ih a.2;have c:=a.1;simp only [aY,List.length_cons,Nat.pow_succ];have b:val r+1<=4294967296^r.length:=this;have e:=Nat.mul_le_mul_left 4294967296 b;omega
theorem tH (n:Nat):val (List.replicate n 0)=0:=by
 induction n with
 | zero=>rfl
 | succ n ih=>simp [List.replicate_succ,ih]
theorem aq (ds:List Nat)(i:Nat)(h:i<ds.length):val (ds.take (i+1))=val (ds.take i)+4294967296^i*ds[i]:=by
 rw [List.take_succ_eq_append_getElem h,cY];simp [List.length_take,Nat.min_eq_left (Nat.le_of_lt h)]
theorem ai {ds:List Nat}{i:Nat}(h:ds.length<=i):val (ds.take i)=val ds:=by rw [List.take_of_length_le h]
theorem xi (ds:List Nat)(i x:Nat)(h:i<ds.length):(ds.set i x).take (i+1)=ds.take i++[x]:=by
 rw [List.take_succ_eq_append_getElem (by simpa using h),List.take_set,List.set_eq_of_length_le (by simp;omega)];simp
theorem aD (ds:List Nat)(i x:Nat)(h:i<ds.length):val ((ds.set i x).take (i+1))=val (ds.take i)+4294967296^i*x:=by
 rw [xi ds i x h,cY];simp [List.length_take,Nat.min_eq_left (Nat.le_of_lt h)]
theorem gY (r:List Nat):bW (r++[0])=bW r:=by
 induction r with
 | nil=>simp [bW]
 | cons d r ih=>simp only [List.cons_append,bW,ih]
theorem nX (r:List Nat)(d:Nat)(h:d≠0):bW (r++[d])=r++[d]:=by
 induction r with
 | nil=>simp [bW,h]
 | cons x r ih=>simp [List.cons_append,bW,ih]
theorem Ho (ds:List Nat):val (bW ds)=val ds:=by
 induction ds with
 | nil=>rfl
 | cons d r ih=>
  simp only [bW];split
  ·rename_i h;rw [aY,←ih,h.1,h.2];rfl
  ·simp [ih]
theorem kg (ds:List Nat):(bW ds).length<=ds.length:=by
 induction ds with
 | nil=>simp [bW]
 | cons d r ih=>simp only [bW];split<;>simp<;>omega
theorem Hm (ds:List Nat):bW ds=ds.take (bW ds).length:=by
 induction ds with
 | nil=>rfl
 | cons d r ih=>
  simp only [bW];split
  ·rfl
  ·simp only [List.length_cons,List.take_succ_cons];rw [←ih]
theorem bM.trim {ds:List Nat}(h:bM ds):bM (bW ds):=by rw [Hm];exact h.take _
theorem C4 (ds:List Nat):rY (bW ds):=by
 unfold rY
 induction ds with
 | nil=>rfl
 | cons d r ih=>
  rw [bW];split
  ·rfl
  ·rename_i h;rw [bW,ih,if_neg h]
theorem rY.tail {d:Nat}{r:List Nat}(h:rY (d::r)):rY r:=by
 unfold rY at h ⊢;simp only [bW] at h;split at h
 ·cases h
 ·injection h
theorem rY.zero {ds:List Nat}(h:rY ds)(hv:val ds=0):ds=[]:=by
 induction ds with
 | nil=>rfl
 | cons d r ih=>
  have a:=ih h.tail (by simp at hv;omega);subst a;simp at hv;subst hv;simp [rY,bW] at h
theorem oO:∀(f n:Nat),n<=f->val (ur f n)=n/\bM (ur f n)/\rY (ur f n)
 | 0,n,h=>⟨by simp [ur];omega,bM.nil,rfl⟩
 | f+1,n,h=>by
  simp only [ur];split
  ·subst_vars;exact ⟨rfl,bM.nil,rfl⟩
  ·obtain ⟨h1,h2,h3⟩:=oO f (n / 4294967296) (by omega);refine ⟨by rw [aY,h1];omega,bM.cons.2 ⟨by omega,h2⟩,?_⟩;unfold rY at h3 ⊢;rw [bW,h3,if_neg];rintro ⟨a,b⟩;rw [a] at h1;simp at h1;omega
theorem ab (n:Nat):val (af n)=n:=(oO n n (Nat.le_refl _)).1
theorem ax (n:Nat):bM (af n):=(oO n n (Nat.le_refl _)).2.1
theorem iV (n:Nat):rY (af n):=(oO n n (Nat.le_refl _)).2.2
theorem rY.ext:∀{a b:List Nat},bM a->bM b->rY a->rY b->val a=val b->a=b
 | [],b,_,_,_,hb,h=>(hb.zero (by rw [←h];rfl)).symm
 | d::r,[],_,_,ha,_,h=>by have:=ha.zero h;cases this
 | d::r,e::s,ha,hb,na,nb,h=>by
  have f:=(bM.cons.1 ha).1;have g:=(bM.cons.1 hb).1;simp only [aY] at h;have:val r=val s:=by omega
  have c:=rY.ext (bM.cons.1 ha).2 (bM.cons.1 hb).2 na.tail nb.tail this;have:d=e:=by omega
  subst this;rw [c]
theorem uv {ds:List Nat}(h:bM ds)(hn:rY ds):af (val ds)=ds:=rY.ext (ax _) h (iV _) hn (ab _)
theorem aK {ds:List Nat}(h:bM ds):bW ds=af (val ds):=by
 rw [←Ho,uv h.trim (C4 _)]
theorem uu {a b:Nat}(h:af a=af b):a=b:=by rw [←ab a,h,ab]
@[simp] theorem yB:af 0=[]:=rfl
theorem bE {n:Nat}:af n=[]↔n=0:=⟨fun h=>uu (by rw [h];rfl),fun h=>h▸rfl⟩
theorem rY.last {ds:List Nat}(h:rY ds)(hl:0<ds.length):ds[ds.length-1]≠0:=by
 intro e
 have a:ds=ds.take (ds.length-1)++[ds[ds.length-1]]:=by
  rw [←List.take_succ_eq_append_getElem (by omega),Nat.sub_add_cancel hl,List.take_length]
 rw [e] at a;have b:bW ds=ds:=h;rw [a,gY] at b;have:=kg (ds.take (ds.length-1));rw [b] at this;simp at this;omega
theorem Ct {ds:List Nat}(h:∀hl:0<ds.length,ds[ds.length-1]≠0):rY ds:=by
 rcases Nat.eq_zero_or_pos ds.length with e|e
 ·rw [List.length_eq_zero_iff.1 e];rfl
 ·have a:ds=ds.take (ds.length-1)++[ds[ds.length-1]]:=by
   rw [←List.take_succ_eq_append_getElem (by omega),Nat.sub_add_cancel e,List.take_length]
  have:=nX (ds.take (ds.length-1)) _ (h e);rw [←a] at this;exact this
theorem JW {ds:List Nat}(h:rY ds)(hl:0<ds.length):4294967296^(ds.length-1)<=val ds:=by
 have a:ds=ds.take (ds.length-1)++[ds[ds.length-1]]:=by
  rw [←List.take_succ_eq_append_getElem (by omega),Nat.sub_add_cancel hl,List.take_length]
 have b:=h.last hl;rw [a,cY];simp only [aY,eh,List.length_take];rw [Nat.min_eq_left (by omega)];simp only [List.length_append,List.length_take,List.length_singleton];rw [Nat.min_eq_left (by omega),Nat.sub_add_cancel hl];have:4294967296^(ds.length-1)*1<=4294967296^(ds.length-1)*(ds[ds.length-1]+4294967296*0):=Nat.mul_le_mul_left _ (by omega);omega
theorem az {n k:Nat}:(af n).length<=k↔n<4294967296^k:=by
 constructor
 ·intro h;have:=fW (ax n);rw [ab] at this;exact Nat.lt_of_lt_of_le this (Nat.pow_le_pow_right (by omega) h)
 ·intro h;rcases Nat.lt_or_ge k (af n).length with a|a
  ·have:=JW (iV n) (by omega);rw [ab] at this;have b:4294967296^k<=4294967296^((af n).length-1):=Nat.pow_le_pow_right (by omega) (by omega);omega
  ·exact a
theorem rG {n k:Nat}:k<(af n).length↔4294967296^k<=n:=by
 have:=@az n k;omega
theorem gu (ds:List Nat)(i:Nat)(h:i<ds.length):val ds=val (ds.take i)+4294967296^i*(ds[i]+4294967296*val (ds.drop (i+1))):=by
 have a:val ds=val (ds.take i++ds.drop i):=by rw [List.take_append_drop]
 rw [a,cY,List.drop_eq_getElem_cons h];simp only [List.length_take,Nat.min_eq_left (Nat.le_of_lt h),aY]
theorem jt {a b:List Nat}{i:Nat}(ha:bM a)(hi:i<a.length)(hj:i<b.length)(hd:a.drop (i+1)=b.drop (i+1))(hl:a[i]<b[i]):val a<val b:=by
 rw [gu a i hi,gu b i hj,hd];have c:=fW (ha.take i);simp only [List.length_take,Nat.min_eq_left (Nat.le_of_lt hi)] at c;have d:4294967296^i*(a[i]+4294967296*val (b.drop (i+1))+1)<=4294967296^i*(b[i]+4294967296*val (b.drop (i+1))):=Nat.mul_le_mul_left _ (by omega);rw [Nat.mul_add,Nat.mul_one] at d;omega
theorem jZ {a b:Nat}(h:(af a).length<(af b).length):a<b:=by
 have c:=fW (ax a);have d:=JW (iV b) (by omega);rw [ab] at c d;have e:4294967296^(af a).length<=4294967296^((af b).length-1):=Nat.pow_le_pow_right (by omega) (by omega);omega
def jT (a b:Nat):Int:=if a<b then -1 else if b<a then 1 else 0
theorem aA {a b:Nat}(h:a<=b):(af a).length<=(af b).length:=by
 rcases Nat.lt_or_ge (af b).length (af a).length with c|c
 ·have:=jZ c;omega
 ·exact c
theorem bo {ds:List Nat}(h:bM ds):(af (val ds)).length<=ds.length:=by rw [←aK h];exact kg ds
theorem KE {n:Nat}(h:n<4294967296)(h0:n≠0):af n=[n]:=by
 have:rY [n]:=by simp [rY,bW,h0]
 have:=uv (by simp [bM];exact h) this;simpa using this
end Go.Big
namespace Go.Proofs.Tryz
open Go.Big
section
variable {α:Type}
variable {c:α->α->Int}
variable {d:α}
theorem BW {l:List α}{i k:Nat}{x:α}(hi:i<l.length):(l.set i x).getD k d=if k=i then x else l.getD k d:=by
 simp only [List.getD_eq_getElem?_getD,List.getElem?_set];by_cases h:k=i
 ·subst h;simp [hi]
 ·have:¬i=k:=fun e=>h e.symm;simp [h,this]
end
end Go.Proofs.Tryz
namespace Go.Proofs.Tryz.Sec
abbrev V2:=Rat×Rat
def cr (u v:V2):Rat:=u.1*v.2-u.2*v.1
def dt (u v:V2):Rat:=u.1*v.1+u.2*v.2
def up (u:V2):Prop:=u.2>0\/u.2=0/\u.1>0
def dn (u:V2):Prop:=u.2<0\/u.2=0/\u.1<0
def nz (u:V2):Prop:=u.1≠0\/u.2≠0
def XE (u v:V2):Prop:=(up u/\dn v)\/((up u/\up v\/dn u/\dn v)/\cr u v>0)
def Y_ (s r:V2):Prop:=∃c:Rat,c>0/\s.1=-(c*r.1)/\s.2=-(c*r.2)
theorem Fj (u v:V2):cr v u=-cr u v:=by unfold cr;grind
theorem Td (u w r:V2):cr u r*w.1+cr r w*u.1=cr u w*r.1:=by unfold cr;grind
theorem Te (u w r:V2):cr u r*w.2+cr r w*u.2=cr u w*r.2:=by unfold cr;grind
theorem mp {a b:Rat}(ha:a>0)(hb:b>0):a*b>0:=Rat.mul_pos ha hb
theorem mn {a b:Rat}(ha:a≥0)(hb:b≥0):a*b≥0:=Rat.mul_nonneg ha hb
structure QT (D:List V2):Prop where
 nz:∀r∈D,nz r
 cl:∀r∈D,∃s∈D,Y_ s r
 asc:D.Pairwise XE
def ss (a b:Rat):Prop:=(b>0->a>0)/\(b<0->a<0)
section
variable {D:List V2} (h:QT D) {v:V2} (hv:∀r ∈ D,cr r v≠0)
include h hv
end
theorem sq_pos {u:V2}(h:nz u):dt u u>0:=by
 have a:∀x:Rat,x*x≥0:=fun x=>by
  by_cases b:x≥0
  ·exact mn b b
  ·have:=mn (show -x≥0 by grind) (show -x≥0 by grind);grind
 have:=a u.1;have:=a u.2;unfold dt;by_cases c:u.1*u.1+u.2*u.2>0
 ·exact c
 ·unfold nz at h;have d:u.1*u.1=0:=by grind
  have f:u.2*u.2=0:=by grind
  rcases Rat.mul_eq_zero.1 d with e|e<;>rcases Rat.mul_eq_zero.1 f with e'|e'<;>grind
section
variable {D:List V2} (h:QT D)
include h
end
section
variable {D:List V2} (h:QT D)
include h
end
end Go.Proofs.Tryz.Sec
namespace Go.Proofs.Tryz
open Go.Eng
def Sent (V:View)(g:Nat)(y:Value):Prop:=V.at ⟨g,0,none⟩ y
theorem Sent.le {V V':View}{g:Nat}{y:Value}(h:Sent V g y)(l:V.Le V'):Sent V' g y:=l.at h
def SErr (y:Value):Prop:=∃a:Addr,y=.iface 335 (.pointer (some a))
section
open Go.RowKit Go.Extern.Stop Go.Stop Go.Extern
end
end Go.Proofs.Tryz
namespace Go.Eng
open Go.Big
theorem i64w {x:Int}(h:-9223372036854775808<=x/\x<=9223372036854775807):i64.wrap x=x:=IntWalk.i64_in x h
theorem aH {x:Int}(h:0<=x/\x<=18446744073709551615):u64.wrap x=x:=IntWalk.u64_in x h
theorem pN {x:Int}(h:0<=x/\x<=4294967295):u32.wrap x=x:=IntWalk.u32_in x h
theorem il (x:Int):u32.wrap x=x%4294967296:=by rw [IntKind.wrap_u32]
theorem qV (x:Int):u64.wrap x=x%18446744073709551616:=by rw [IntKind.wrap_u64]
theorem lj {x:Int}:x.fdiv (2^32)=x / 4294967296:=by rw [Int.fdiv_eq_ediv_of_nonneg _ (by decide)];rfl
theorem JN {x:Int}:x.fdiv (2^63)=x / 9223372036854775808:=by rw [Int.fdiv_eq_ediv_of_nonneg _ (by decide)];rfl
theorem Cz (a b:Nat)(ha:a<4294967296)(hb:b<4294967296):bg .or .u64 ((a:Int)*4294967296) (b:Int)=(a:Int)*4294967296+b:=by
 have c:((a:Int)*4294967296)=((a*2^32:Nat):Int):=by simp
 rw [bg,c,qV]
 have d:(BitVec.ofInt IntKind.u64.bits ((a*2^32:Nat):Int) ||| BitVec.ofInt IntKind.u64.bits (b:Int)).toNat=a*2^32+b:=by
  show (BitVec.ofInt 64 ((a*2^32:Nat):Int) ||| BitVec.ofInt 64 (b:Int)).toNat=_;rw [BitVec.ofInt_natCast,BitVec.ofInt_natCast,BitVec.toNat_or,BitVec.toNat_ofNat,BitVec.toNat_ofNat,Nat.mod_eq_of_lt (by omega),Nat.mod_eq_of_lt (by omega)];have:=Nat.shiftLeft_add_eq_or_of_lt (b:=b) (i:=32) (by omega) a;rw [Nat.shiftLeft_eq] at this;exact this.symm
 rw [d];omega
def ay (ds:List Nat):List Value:=ds.map fun (d:Nat)=>Value.int .u32 (d:Int)
@[simp] theorem QD (ds:List Nat):(ay ds).length=ds.length:=by simp [ay]
theorem bj (ds:List Nat)(i x:Nat):(ay ds).set i (.int .u32 (x:Int))=ay (ds.set i x):=by simp [ay,List.map_set]
theorem cD (n:Nat):List.replicate n (Value.int .u32 0)=ay (List.replicate n 0):=by simp [ay]
theorem fU {ds:List Nat}{i:Nat}(h:i<ds.length):(ay ds)[i]?=some (.int .u32 (ds[i]:Int)):=by simp [ay,h]
theorem zu (ds:List Nat)(k:Nat):ay (ds.take k)=(ay ds).take k:=by simp [ay,List.map_take]
theorem Hn (ds:List Nat)(k:Nat):ay (ds.drop k)=(ay ds).drop k:=by simp [ay,List.map_drop]
theorem rT (a b:List Nat):ay (a++b)=ay a++ay b:=by simp [ay]
theorem View.Le.sl {V V':View}(h:V.Le V'){a:OA}{xs:List Value}(hs:V.sl a xs):V'.sl a xs:=
 fun i v hv=>let ⟨ad,e,ha⟩:=hs i v hv;⟨ad,e,h.at ha⟩
structure RD (V:View) (p:OA) (n c:Nat) (ds:List Nat):Prop where
 len:n=ds.length
 cap:n<=c
 sl:V.sl p (ay ds)
 fu:bM ds
 GW:p.isNone=true->c=0
theorem RD.le {V V':View}{p:OA}{n c:Nat}{ds:List Nat}(h:RD V p n c ds)(l:V.Le V'):RD V' p n c ds:=⟨h.len,h.cap,l.sl h.sl,h.fu,h.GW⟩
theorem RD.nil {V:View}:RD V none 0 0 []:=⟨rfl,Nat.le_refl _,fun i v h=>by simp [ay] at h,bM.nil,fun _=>rfl⟩
theorem RD.take {V:View}{p:OA}{n c:Nat}{ds:List Nat}(h:RD V p n c ds){k:Nat}(hk:k<=n):RD V p k c (ds.take k):=by
 have:=h.len;refine ⟨by simp;omega,by have:=h.cap;omega,fun i v hv=>h.sl i v ?_,h.fu.take k,h.GW⟩;rw [zu] at hv;rw [List.getElem?_take] at hv;split at hv
 ·exact hv
 ·cases hv
theorem RD.rd {V:View}{p:OA}{n c:Nat}{ds:List Nat}(h:RD V p n c ds){i:Int}{K:Int->Prop}(j:Nat)(hj:i=j)(hn:j<ds.length)
  (hK:K ((ds[j]:Nat):Int)):(p.isSome=true)/\(0<=i/\i<(n:Int))/\∃x:Int,(∃a,addrAdd p (i.toNat*1)=some a/\V.at a (.int .u32 x))/\K x:=by
 obtain ⟨b,e,d⟩:=h.sl j _ (fU hn);have:=h.len;subst hj;refine ⟨by rw [e];rfl,⟨by omega,by omega⟩,_,⟨b.add j,?_,d⟩,hK⟩;rw [e];simp [addrAdd]
theorem blk_at {V:View}{b:Nat}{xs:List Value}{ty:TypeId}{m:Nat×Nat}(h:V.aS b (.cells xs.toArray ty m)){i:Nat}{v:Value}(hv:xs[i]?=some v):V.at ⟨b,i,none⟩ v:=by
 refine ⟨h.1,?_⟩;unfold World.cell?;rw [h.2];simpa using hv
theorem add_zero' (b i:Nat):(⟨b,0,none⟩:Addr).add i=⟨b,i,none⟩:=by
 unfold Addr.add;split
 ·rename_i h;simp_all
 ·simp
theorem RD.aS {V:View}{b:Nat}{ds:List Nat}{ty:TypeId}{m:Nat×Nat}(h:V.aS b (.cells (ay ds).toArray ty m))(hd:bM ds){n c:Nat}(hn:n=ds.length)(hc:n<=c):RD V (some ⟨b,0,none⟩) n c ds:=
 ⟨hn,hc,fun i v hv=>⟨_,rfl,by rw [add_zero'];exact blk_at h hv⟩,hd,fun e=>nomatch e⟩
end Go.Eng
namespace Go.Big
def bD (n:Nat):Nat:=if n=0 then 0 else n.log2+1
theorem pf (n:Nat):n<2^bD n:=by
 unfold bD;split
 ·subst_vars;decide
 ·exact Nat.lt_log2_self
theorem oZ {n:Nat}(h:n≠0):2^(bD n-1)<=n:=by
 unfold bD;rw [if_neg h];exact Nat.log2_self_le h
theorem rC {n b:Nat}(h0:n<2^b)(h1:b=0\/2^(b-1)<=n):bD n=b:=by
 rcases h1 with h1|h1
 ·subst h1;have:n=0:=by simpa using h0
  subst this;rfl
 ·have a:n≠0:=by have:=Nat.two_pow_pos (b-1);omega
  have c:=pf n;have d:=oZ a;have e:¬bD n<b:=fun h=>by have:=Nat.pow_le_pow_right (n:=2) (by omega) (show bD n<=b-1 by omega);omega
  have f:¬b<bD n:=fun h=>by have:=Nat.pow_le_pow_right (n:=2) (by omega) (show b<=bD n-1 by omega);omega
  omega
theorem jh {n b:Nat}:bD n<=b↔n<2^b:=by
 constructor
 ·intro h;exact Nat.lt_of_lt_of_le (pf n) (Nat.pow_le_pow_right (by omega) h)
 ·intro h;rcases Nat.lt_or_ge b (bD n) with a|a
  ·have c:n≠0:=by intro e;subst e;simp [bD] at a
   have:=oZ c;have:=Nat.pow_le_pow_right (n:=2) (by omega) (show b<=bD n-1 by omega);omega
  ·exact a
theorem tS {n k:Nat}(h:2^k<=n):bD (n / 2^k)+k=bD n:=by
 have a:=Nat.two_pow_pos k;have b:n / 2^k≠0:=by have:=Nat.div_pos h a;omega
 have c:=pf (n / 2^k);have d:=oZ b;refine (rC ?_ (.inr ?_)).symm
 ·rw [Nat.pow_add];exact (Nat.div_lt_iff_lt_mul a).1 c
 ·have e:0<bD (n / 2^k):=by unfold bD;rw [if_neg b];omega
  rw [show bD (n / 2^k)+k-1=bD (n / 2^k)-1+k from by omega,Nat.pow_add];exact (Nat.le_div_iff_mul_le a).1 d
end Go.Big
namespace Go.Proofs.Tryz
open Go.Eng Go.Big
theorem fP (a k:Nat):((a:Nat):Int).fdiv (2^k)=((a / 2^k:Nat):Int):=by
 rw [Int.fdiv_eq_ediv_of_nonneg _ (by have:=Int.pow_pos (n:=2) (m:=k) (by omega);omega)];simp
def K5:ByteArray:=⟨#[0,1,2,2,3,3,3,3,4,4,4,4,4,4,4,4,5,5,5,5,5,5,5,5,5,5,5,5,5,5,5,5,6,6,6,6,6,6,6,6,6,6,6,6,6,6,6,6,6,6,6,6,6,6,6,6,6,6,6,6,6,6,6,6,7,7,7,7,7,7,7,7,7,7,7,7,7,7,7,7,7,7,7,7,7,7,7,7,7,7,7,7,7,7,7,7,7,7,7,7,7,7,7,7,7,7,7,7,7,7,7,7,7,7,7,7,7,7,7,7,7,7,7,7,7,7,7,7,8,8,8,8,8,8,8,8,8,8,8,8,8,8,8,8,8,8,8,8,8,8,8,8,8,8,8,8,8,8,8,8,8,8,8,8,8,8,8,8,8,8,8,8,8,8,8,8,8,8,8,8,8,8,8,8,8,8,8,8,8,8,8,8,8,8,8,8,8,8,8,8,8,8,8,8,8,8,8,8,8,8,8,8,8,8,8,8,8,8,8,8,8,8,8,8,8,8,8,8,8,8,8,8,8,8,8,8,8,8,8,8,8,8,8,8,8,8,8,8,8,8,8,8,8,8,8,8]⟩
set_option maxRecDepth 10000 in
theorem Ky {V:View}(x:Nat)(hx:x<4294967296) :
  Acts prog 230 #[.int .u32 (x:Int)] V fun r V'=>r=.int .i64 (bD x:Int):=by
 refine oh _ V _ ⟨fun z _=>∃y b:Nat,z=((y:Int),(b:Int))/\y<65536/\b<=16/\bD x=bD y+b,⟨fun a=>⟨by omega,?_⟩,fun a=>?_⟩,?_⟩
 ·rw [fP];have a:2^16<=x:=by simp at a;omega
  exact ⟨_,⟨rfl,rfl⟩,x / 2^16,16,rfl,by omega,by omega,(tS a).symm⟩
 ·exact ⟨_,⟨rfl,rfl⟩,x,0,rfl,by simp at a;omega,by omega,rfl⟩
 ·rintro _ h i ⟨y,b,rfl,d,f,e⟩;rw [e];clear e;refine ⟨by trivial,fun z _=>∃y' b':Nat,z=((y':Int),(b':Int))/\y'<256/\b'<=24/\bD y+b=bD y'+b',⟨fun a=>⟨by omega,?_⟩,fun a=>?_⟩,?_⟩
  ·dsimp only at a ⊢;rw [fP];simp (disch:=omega) only [i64w];have a:2^8<=y:=by simp at a;omega
   exact ⟨(((y / 2^8:Nat):Int),(b:Int)+8),⟨rfl,rfl⟩,y / 2^8,b+8,by simp,by omega,by omega,by have:=tS a;omega⟩
  ·exact ⟨_,⟨rfl,rfl⟩,y,b,rfl,by simp at a;omega,by omega,rfl⟩
  ·rintro _ V2 j ⟨y,b,rfl,d,f,e⟩;rw [e];clear e;have hw:IntKind.u8.wrap (y:Int)=y:=IntWalk.u8_in _ (by omega);dsimp only;rw [hw];have c:(K5.size:Int)=256:=rfl;refine ⟨by trivial,⟨by omega,by show (y:Int)<(K5.size:Int);rw [c];omega⟩,fun k l=>?_⟩;show Value.int .i64 (i64.wrap (b+i64.wrap ((K5.data.toList.getD (y:Int).toNat 0).toNat:Int)))=_;congr 1;have key:∀y:Nat,y<256->(K5.data.toList.getD y 0).toNat=bD y:=by decide +kernel
   have g:bD y<=8:=jh.2 (by omega);have:=key y d;rw [Int.toNat_natCast,this];simp (disch:=omega) only [i64w];omega
theorem fY {V:View}(x:Nat)(hx:x<4294967296) :
  Acts prog 194 #[.int .u32 (x:Int)] V fun r V'=>r=.int .i64 (32-(bD x:Int)):=by
 refine ir _ V _ fun b c=>(Ky x hx).mono ?_;rintro r V2 d rfl;have a:bD x<=32:=jh.2 (by omega);refine ⟨_,rfl,fun e f=>?_⟩;simp (disch:=omega) only [i64w]
theorem E5 (a:Nat)(ha:a<18446744073709551616):bg .and .u64 (a:Int) 4294967295=((a%4294967296:Nat):Int):=by
 rw [bg,qV]
 have b:(BitVec.ofInt IntKind.u64.bits ((a:Nat):Int) &&& BitVec.ofInt IntKind.u64.bits 4294967295).toNat=a%4294967296:=by
  show (BitVec.ofInt 64 ((a:Nat):Int) &&& BitVec.ofInt 64 ((4294967295:Nat):Int)).toNat=_;rw [BitVec.ofInt_natCast,BitVec.ofInt_natCast,BitVec.toNat_and,BitVec.toNat_ofNat,BitVec.toNat_ofNat,Nat.mod_eq_of_lt (by omega),Nat.mod_eq_of_lt (by omega)];have:=Nat.and_two_pow_sub_one_eq_mod a 32;exact this
 rw [b];omega
theorem Cq (a b c d:Nat)(ha:a<4294967296)(hb:b<4294967296)(hc:c<4294967296)(hd:d<4294967296) :
  a*c+(a*d+b*d / 4294967296) / 4294967296+((a*d+b*d / 4294967296)%4294967296+b*c) / 4294967296=(a*4294967296+b)*(c*4294967296+d) / 18446744073709551616 /\
  a*c<=18446744065119617025/\a*d<=18446744065119617025/\b*c<=18446744065119617025/\b*d<=18446744065119617025:=by
 have f:a*c<=4294967295*4294967295:=Nat.mul_le_mul (by omega) (by omega);have g:a*d<=4294967295*4294967295:=Nat.mul_le_mul (by omega) (by omega);have h:b*c<=4294967295*4294967295:=Nat.mul_le_mul (by omega) (by omega);have i:b*d<=4294967295*4294967295:=Nat.mul_le_mul (by omega) (by omega);have e:(a*4294967296+b)*(c*4294967296+d)=(a*c)*18446744073709551616+(a*d)*4294967296+(b*c)*4294967296+b*d:=by grind
 rw [e];generalize a*c=p at *;generalize a*d=q at *;generalize b*c=r at *;generalize b*d=s at *;refine ⟨by omega,by omega,by omega,by omega,by omega⟩
theorem Kz {V:View}(x y:Nat)(hx:x<18446744073709551616)(hy:y<18446744073709551616) :
  Acts prog 241 #[.int .u64 (x:Int),.int .u64 (y:Int)] V fun r V'=>r=.tuple #[.int .u64 ((x*y / 18446744073709551616:Nat):Int),.int .u64 ((x*y%18446744073709551616:Nat):Int)]:=by
 refine oo _ _ V _ ⟨by omega,by omega,by omega,by omega,by omega,fun v w=>?_⟩;have p:=Cq (x / 4294967296) (x%4294967296) (y / 4294967296) (y%4294967296) (by omega) (by omega) (by omega) (by omega);rw [Nat.div_add_mod' x 4294967296,Nat.div_add_mod' y 4294967296] at p;obtain ⟨f,z,A,B,C⟩:=p;have e:u64.wrap ((x:Int)*y)=((x*y%18446744073709551616:Nat):Int):=by rw [qV];simp
 rw [e,E5 x hx,E5 y hy,lj,lj];rw [←f];have g:((x:Int) / 4294967296)*((y:Int) / 4294967296)=((x / 4294967296*(y / 4294967296):Nat):Int):=by simp
 have h:((x:Int) / 4294967296)*((y%4294967296:Nat):Int)=((x / 4294967296*(y%4294967296):Nat):Int):=by simp
 have i:((x%4294967296:Nat):Int)*((y:Int) / 4294967296)=((x%4294967296*(y / 4294967296):Nat):Int):=by simp
 have j:((x%4294967296:Nat):Int)*((y%4294967296:Nat):Int)=((x%4294967296*(y%4294967296):Nat):Int):=by simp
 rw [g,h,i,j];generalize x / 4294967296*(y / 4294967296)=a at *;generalize x / 4294967296*(y%4294967296)=b at *;generalize x%4294967296*(y / 4294967296)=c at *;generalize x%4294967296*(y%4294967296)=d at *;simp only [lj];have k:u64.wrap (d:Int)=d:=aH (by omega);have l:u64.wrap (b:Int)=b:=aH (by omega);have m:u64.wrap (c:Int)=c:=aH (by omega);have n:u64.wrap (a:Int)=a:=aH (by omega);rw [k,l,m,n];have o:u64.wrap ((b:Int)+d / 4294967296)=((b+d / 4294967296:Nat):Int):=by rw [aH (by omega)];omega
 rw [o,E5 _ (by omega)];have q:u64.wrap (((b+d / 4294967296)%4294967296:Nat)+(c:Int))=(((b+d / 4294967296)%4294967296+c:Nat):Int):=by rw [aH (by omega)];omega
 rw [q]
 have s:x*y / 18446744073709551616<18446744073709551616:=by
  have:x*y<18446744073709551616*18446744073709551616:=Nat.mul_lt_mul'' hx hy;omega
 have t:u64.wrap ((a:Int)+((b+d / 4294967296:Nat):Int) / 4294967296)=((a+(b+d / 4294967296) / 4294967296:Nat):Int):=by
  rw [aH (by omega)];omega
 rw [t]
 have u:u64.wrap (((a+(b+d / 4294967296) / 4294967296:Nat):Int)+(((b+d / 4294967296)%4294967296+c:Nat):Int) / 4294967296)=((a+(b+d / 4294967296) / 4294967296+((b+d / 4294967296)%4294967296+c) / 4294967296:Nat):Int):=by
  rw [aH (by omega)];omega
 rw [u]
theorem Kw {V:View}(x y c:Nat)(hx:x<4294967296)(hy:y<4294967296)(hc:c<4294967296) :
  Acts prog 192 #[.int .u32 (x:Int),.int .u32 (y:Int),.int .u32 (c:Int)] V fun r V'=>r=.tuple #[.int .u32 (((x+y+c)%4294967296:Nat):Int),.int .u32 (((x+y+c) / 4294967296:Nat):Int)]:=by
 refine oa _ _ _ V _ ⟨by omega,fun d e=>?_⟩;simp (disch:=omega) only [aH,il,lj];have a:((x:Int)+y+c)%4294967296=(((x+y+c)%4294967296:Nat):Int):=by omega
 have b:((x:Int)+y+c) / 4294967296%4294967296=(((x+y+c) / 4294967296:Nat):Int):=by omega
 rw [a,b]
theorem LI (a b:Nat)(ha:a<4294967296)(hb:b<4294967296):bg .and .u32 (a:Int) (b:Int)=((a &&& b:Nat):Int):=by
 have c:(BitVec.ofInt IntKind.u32.bits ((a:Nat):Int) &&& BitVec.ofInt IntKind.u32.bits ((b:Nat):Int)).toNat=a &&& b:=by
  show (BitVec.ofInt 32 ((a:Nat):Int) &&& BitVec.ofInt 32 ((b:Nat):Int)).toNat=_;rw [BitVec.ofInt_natCast,BitVec.ofInt_natCast,BitVec.toNat_and,BitVec.toNat_ofNat,BitVec.toNat_ofNat,Nat.mod_eq_of_lt (by omega),Nat.mod_eq_of_lt (by omega)]
 have d:a &&& b<2^32:=Nat.and_lt_two_pow a (by omega);rw [bg,il,c];omega
theorem TA (a b:Nat)(ha:a<4294967296)(hb:b<4294967296):bg .or .u32 (a:Int) (b:Int)=((a ||| b:Nat):Int):=by
 have c:(BitVec.ofInt IntKind.u32.bits ((a:Nat):Int) ||| BitVec.ofInt IntKind.u32.bits ((b:Nat):Int)).toNat=a ||| b:=by
  show (BitVec.ofInt 32 ((a:Nat):Int) ||| BitVec.ofInt 32 ((b:Nat):Int)).toNat=_;rw [BitVec.ofInt_natCast,BitVec.ofInt_natCast,BitVec.toNat_or,BitVec.toNat_ofNat,BitVec.toNat_ofNat,Nat.mod_eq_of_lt (by omega),Nat.mod_eq_of_lt (by omega)]
 have d:a ||| b<2^32:=Nat.or_lt_two_pow (by omega) (by omega);rw [bg,il,c];omega
theorem Kc (a b:Nat)(ha:a<4294967296)(hb:b<4294967296):bg .xor .u32 (a:Int) (b:Int)=((a ^^^ b:Nat):Int):=by
 have c:(BitVec.ofInt IntKind.u32.bits ((a:Nat):Int) ^^^ BitVec.ofInt IntKind.u32.bits ((b:Nat):Int)).toNat=a ^^^ b:=by
  show (BitVec.ofInt 32 ((a:Nat):Int) ^^^ BitVec.ofInt 32 ((b:Nat):Int)).toNat=_;rw [BitVec.ofInt_natCast,BitVec.ofInt_natCast,BitVec.toNat_xor,BitVec.toNat_ofNat,BitVec.toNat_ofNat,Nat.mod_eq_of_lt (by omega),Nat.mod_eq_of_lt (by omega)]
 have d:a ^^^ b<2^32:=Nat.xor_lt_two_pow (by omega) (by omega);rw [bg,il,c];omega
theorem QC {n:Nat}(h:n<4294967296):n / 2147483648=if n.testBit 31 then 1 else 0:=by
 rw [Nat.testBit_eq_decide_div_mod_eq];have:(2:Nat)^31=2147483648:=by decide
 rw [this];split
 ·rename_i a;simp at a;omega
 ·rename_i a;simp at a;omega
theorem Fa {n:Nat}(h:n<4294967296):n.testBit 31=decide (2147483648<=n):=by
 rw [Nat.testBit_eq_decide_div_mod_eq];have:(2:Nat)^31=2147483648:=by decide
 rw [this];congr 1;simp;omega
theorem HO (x y c:Nat)(hx:x<4294967296)(hy:y<4294967296)(hc:c<=1){d:Nat}(hd:(d:Int)=((x:Int)-y-c)%4294967296) :
  (((4294967295 ^^^ x) &&& y) ||| ((4294967295 ^^^ (x ^^^ y)) &&& d)) / 2147483648=if x<y+c then 1 else 0:=by
 have k:(4294967295 ^^^ x)<2^32:=Nat.xor_lt_two_pow (by omega) (by omega);have b:x ^^^ y<2^32:=Nat.xor_lt_two_pow (by omega) (by omega);have l:(4294967295 ^^^ (x ^^^ y))<2^32:=Nat.xor_lt_two_pow (by omega) b;have e:(4294967295 ^^^ x) &&& y<2^32:=Nat.and_lt_two_pow _ (by omega);have f:(4294967295 ^^^ (x ^^^ y)) &&& d<2^32:=Nat.and_lt_two_pow _ (by omega);have g:=Nat.or_lt_two_pow e f;rw [QC g];have a:d<4294967296:=by omega
 rw [Nat.testBit_or,Nat.testBit_and,Nat.testBit_and,Nat.testBit_xor,Nat.testBit_xor,Nat.testBit_xor,Fa hx,Fa hy,Fa a,Fa (n:=4294967295) (by omega)];by_cases h:2147483648<=x<;>by_cases i:2147483648<=y<;>by_cases j:2147483648<=d<;>simp [h,i,j]<;>omega
theorem KB {V:View}(x y c:Nat)(hx:x<4294967296)(hy:y<4294967296)(hc:c<=1) :
  Acts prog 193 #[.int .u32 (x:Int),.int .u32 (y:Int),.int .u32 (c:Int)] V fun r V'=>∃d b:Nat,r=.tuple #[.int .u32 (d:Int),.int .u32 (b:Int)]/\d<4294967296/\b<=1/\d+(y+c)=x+4294967296*b:=by
 refine oq _ _ _ V _ ⟨by omega,fun n o=>?_⟩;obtain ⟨d,g⟩:∃d:Nat,(d:Int)=((x:Int)-y-c)%4294967296:=⟨(((x:Int)-y-c)%4294967296).toNat,by omega⟩;have a:d<4294967296:=by omega
 have h:u32.wrap (u32.wrap ((x:Int)-y)-c)=(d:Int):=by rw [il,il];omega
 have i:IntKind.u32.max=((4294967295:Nat):Int):=rfl;have j:(4294967295 ^^^ x)<2^32:=Nat.xor_lt_two_pow (by omega) (by omega);have f:x ^^^ y<2^32:=Nat.xor_lt_two_pow (by omega) (by omega);have k:(4294967295 ^^^ (x ^^^ y))<2^32:=Nat.xor_lt_two_pow (by omega) f;have l:(4294967295 ^^^ x) &&& y<2^32:=Nat.and_lt_two_pow _ (by omega);have m:(4294967295 ^^^ (x ^^^ y)) &&& d<2^32:=Nat.and_lt_two_pow _ (by omega);rw [h,i,Kc _ _ (by omega) hx,LI _ _ j hy,Kc _ _ hx hy,Kc _ _ (by omega) f,LI _ _ k a,TA _ _ l m,fP];have e:(2:Nat)^31=2147483648:=by decide
 rw [e,HO x y c hx hy hc g];refine ⟨d,_,rfl,a,?_,?_⟩
 ·split<;>omega
 ·split<;>omega
theorem Kx {V:View}(hi lo y:Nat)(hh:hi<y)(hl:lo<4294967296)(hy:y<4294967296) :
  Acts prog 154 #[.int .u32 (hi:Int),.int .u32 (lo:Int),.int .u32 (y:Int)] V fun r V'=>r=.tuple #[.int .u32 (((hi*4294967296+lo) / y:Nat):Int),.int .u32 (((hi*4294967296+lo)%y:Nat):Int)]:=by
 have key:∀b:View,Value.tuple #[.int .u32 (u32.wrap (u64.wrap ((bg .or .u64 (u64.wrap ((u64.wrap (hi:Int))*2^32)) (u64.wrap (lo:Int))).tdiv (u64.wrap (y:Int))))),.int .u32 (u32.wrap ((bg .or .u64 (u64.wrap ((u64.wrap (hi:Int))*2^32)) (u64.wrap (lo:Int))).tmod (u64.wrap (y:Int))))]=.tuple #[.int .u32 (((hi*4294967296+lo) / y:Nat):Int),.int .u32 (((hi*4294967296+lo)%y:Nat):Int)]:=by
  intro _;have c:((2:Int)^32)=4294967296:=by decide
  have d:u64.wrap (hi:Int)=hi:=aH (by omega);have e:u64.wrap (lo:Int)=lo:=aH (by omega);have a:u64.wrap (y:Int)=y:=aH (by omega);have f:u64.wrap ((hi:Int)*4294967296)=(hi:Int)*4294967296:=aH (by omega);rw [d,c,f,e,a,Cz _ _ (by omega) hl];have g:(hi:Int)*4294967296+lo=((hi*4294967296+lo:Nat):Int):=by omega
  rw [g,←Int.ofNat_tdiv,←Int.ofNat_tmod]
  have m:(hi*4294967296+lo) / y<4294967296:=by
   rw [Nat.div_lt_iff_lt_mul (by omega)];have:(hi+1)*4294967296<=y*4294967296:=Nat.mul_le_mul_right _ hh;omega
  have n:(hi*4294967296+lo)%y<y:=Nat.mod_lt _ (by omega);generalize (hi*4294967296+lo) / y=q at *;generalize (hi*4294967296+lo)%y=r at *;have i:u64.wrap (q:Int)=q:=aH (by omega);have j:u32.wrap (q:Int)=q:=pN (by omega);have k:u32.wrap (r:Int)=r:=pN (by omega);rw [i,j,k]
 have a:u64.wrap (y:Int)=y:=aH (by omega);refine og _ _ _ V _ ⟨fun _=>⟨fun h=>?_,fun _=>⟨by omega,by rw [a];omega,by rw [a];omega,fun b l=>key b⟩⟩,fun _=>⟨by omega,by rw [a];omega,by rw [a];omega,fun b l=>key b⟩⟩;simp at h;omega
theorem aO {V:View}{p:OA}{n c:Nat}{ds:List Nat}(h:RD V p n c ds)(hm:ds.length<=4611686018427387904) :
  Acts prog 221 #[.slice p n c] V fun r V'=>∃k,r=.slice p k c/\RD V' p k c (bW ds):=by
 refine Dj p n c V _ ?_;refine ⟨fun z V'=>z.1=p/\z.2.2=c/\z.2.1<=ds.length/\bW (ds.take z.2.1)=bW ds/\RD V' p z.2.1 c (ds.take z.2.1),fun z=>z.2.1,⟨(p,n,c),⟨rfl,rfl,rfl⟩,rfl,rfl,?_⟩,?_⟩
 ·have:=h.len;subst this;simp;exact h
 ·rintro ⟨q,k,i⟩ l m ⟨rfl,rfl,j,e,d⟩;dsimp only at j e d ⊢;refine ⟨rfl,fun a=>?_,fun a=>?_⟩
  ·have a:0<k:=by simpa using a
   simp (disch:=omega) only [i64w];have o:(ds.take k).length=k:=by simp;omega
   have f:ds.take k=ds.take (k-1)++[ds[k-1]]:=by rw [←List.take_succ_eq_append_getElem (by omega),Nat.sub_add_cancel a]
   refine d.rd (k-1) (by omega) (by omega) ⟨fun b=>?_,fun b=>?_⟩
   ·have b:ds[k-1]=0:=by simpa using b
    refine ⟨⟨by omega,by have:=d.cap;omega⟩,(q,k-1,i),by dsimp only;omega,⟨rfl,by dsimp only;omega,rfl⟩,rfl,rfl,by dsimp only;omega,?_,?_⟩
    ·dsimp only;rw [←e,f,b,gY]
    ·have:=d.take (k:=k-1) (by omega);dsimp only
     rwa [List.take_take,Nat.min_eq_left (by omega)] at this
   ·have b:ds[k-1]≠0:=by simpa using b
    refine fun V2 g=>⟨k,rfl,?_⟩;rw [←e,f,nX _ _ b,←f];exact d.le g
  ·have a:k=0:=by simpa using a
   subst a;refine fun V2 g=>⟨0,rfl,?_⟩;rw [←e];exact d.le g
theorem lK {V:View}{p:OA}{n c:Nat}{ds:List Nat}(h:RD V p n c ds)(hm:ds.length<=1099511627776) :
  Acts prog 223 #[.slice p n c] V fun r V'=>∃q k c',r=.slice q k c'/\RD V' q k c' ds:=by
 have f:=h.len;refine s_ p n c V _ ⟨fun a l m=>⟨_,_,_,rfl,?_⟩,fun a=>⟨ay ds,h.sl,by simp [f],by omega,by omega,by simp,by simp [f],?_,?_⟩⟩
 ·have a:p=none:=by simpa using a
  subst a
  have:ds=[]:=by
   rcases Nat.eq_zero_or_pos ds.length with e|e
   ·exact List.length_eq_zero_iff.1 e
   ·obtain ⟨o,e,-⟩:=h.sl 0 _ (fU e);cases e
  subst this;exact RD.nil
 ·intro v hv;simp only [ay,List.mem_map] at hv;obtain ⟨d,-,rfl⟩:=hv;rfl
 ·intro s J sp c' g t l m b j;refine ⟨_,_,_,rfl,?_⟩;simp only [Nat.zero_add,Nat.zero_mul,List.take_zero,List.nil_append] at j g ⊢;exact ⟨f,g,fun i v hv=>⟨_,rfl,by rw [add_zero'];exact blk_at j (by rw [List.getElem?_append_left (by rcases Nat.lt_or_ge i (ay ds).length with e|e;exact e;rw [List.getElem?_eq_none e] at hv;cases hv)];exact hv)⟩,h.fu,fun e=>nomatch e⟩
abbrev RN (V:View)(p:OA)(n c:Nat)(x:Nat):Prop:=RD V p n c (af x)
theorem iH {V:View}{p:OA}{n c:Nat}{ds:List Nat}(h:RD V p n c ds)(hm:ds.length<=1099511627776) :
  Acts prog 187 #[.slice p n c] V fun r V'=>∃q k c',r=.slice q k c'/\RN V' q k c' (val ds):=by
 refine Df p n c V _ fun g a=>(aO (h.le a) (by omega)).mono ?_;rintro r V2 i ⟨k,rfl,b⟩;refine ⟨_,_,_,rfl,fun j d=>(lK (b.le d) (by have:=kg ds;omega)).mono ?_⟩;rintro r l m ⟨q,o,c',rfl,e⟩;refine ⟨_,_,_,rfl,fun s f=>⟨_,_,_,rfl,?_⟩⟩;unfold RN;rw [←aK h.fu];exact e.le f
theorem zL {V:View}{p:OA}{n c:Nat}{ds:List Nat}(h:RD V p n c ds)(hm:ds.length<=1099511627776) :
  Acts prog 203 #[.slice p n c] V fun r V'=>r=.bool (decide (af (val ds)=ds)):=by
 have d:=h.len;refine xG p n c V _ ⟨fun a e f=>?_,fun a=>?_⟩
 ·have:ds=[]:=List.length_eq_zero_iff.1 (by simp at a;omega);subst this;rfl
 ·have a:0<n:=by simp at a;omega
  simp (disch:=omega) only [i64w];refine h.rd (n-1) (by omega) (by omega) fun e f=>?_;congr 1;rw [Bool.eq_iff_iff];simp only [bne_iff_ne,ne_eq,decide_eq_true_eq];subst d;constructor
  ·intro b;exact uv h.fu (Ct fun _=>by simpa using b)
  ·intro he b;have:rY ds:=by rw [←he];exact iV _
   exact this.last (by omega) (by simpa using b)
theorem dF {V:View}(u:Int)(h0:0<=u)(h1:u<18446744073709551616) :
  Acts prog 220 #[.int .u64 u] V fun r V'=>∃q k c',r=.slice q k c'/\RN V' q k c' u.toNat:=by
 obtain ⟨u,rfl⟩:=Int.eq_ofNat_of_zero_le h0;refine sR _ V _ ⟨by omega,fun e h f a=>?_⟩;rw [lj,il,pN (by omega)] at a
 have a:e.aS f (.cells (ay [u%4294967296,u / 4294967296]).toArray 225 (0,0)):=by
  simpa [ay] using a
 have d:bM [u%4294967296,u / 4294967296]:=by simp [bM];omega
 refine (aO (RD.aS a d (n:=2) (c:=2) rfl (Nat.le_refl _)) (by simp)).mono ?_;rintro r V2 i ⟨k,rfl,b⟩;refine ⟨_,_,_,rfl,fun _ j g=>⟨_,_,_,rfl,?_⟩⟩;rw [aK d] at b;have:val [u%4294967296,u / 4294967296]=(u:Int).toNat:=by simp;omega
 rw [this] at b;exact b.le g
theorem yw {V:View}{p q:OA}{n c m e:Nat}{xa xb:List Nat}(ha:RD V p n c xa)(hb:RD V q m e xb)(hm:xa.length<=1099511627776)(hn:xb.length<=1099511627776) :
  Acts prog 222 #[.slice p n c,.slice q m e] V fun r V'=>r=.int .i64 (jT (val xa) (val xb)):=by
 have la:=kg xa;have lb:=kg xb;refine EM p n c q m e V _ fun J w=>(aO (ha.le w) (by omega)).mono ?_;rintro r V2 D ⟨n,rfl,g⟩;refine ⟨_,_,_,rfl,fun K A=>(aO (hb.le (w.trans (D.trans A))) (by omega)).mono ?_⟩;rintro r L E ⟨m,rfl,j⟩;refine ⟨_,_,_,rfl,?_⟩
 replace g:=g.le (A.trans E)
 rw [aK ha.fu] at g la;rw [aK hb.fu] at j lb;generalize val xa=x at *;generalize val xb=y at *;have F:=g.len;have G:=j.len;refine ⟨fun h=>⟨fun d B C=>?_,fun d B C=>?_⟩,fun h=>?_⟩
 ·have:=jZ (a:=x) (b:=y) (by simp at d;omega);rw [jT,if_pos this]
 ·have:=jZ (a:=y) (b:=x) (by simp at h d;omega);rw [jT,if_neg (by omega),if_pos this]
 ·have h:n=m:=by simp at h;omega
  subst h;simp (disch:=omega) only [i64w];refine ⟨fun z V'=>-1<=z/\z<n/\(af x).drop (z+1).toNat=(af y).drop (z+1).toNat,fun z=>(z+1).toNat,⟨_,by (try dsimp only);and_intros<;>trivial,by (try dsimp only);omega,by (try dsimp only);omega,?_⟩,?_⟩
  ·(try dsimp only)
   rw [List.drop_of_length_le (by omega),List.drop_of_length_le (by omega)]
  ·rintro i M k ⟨o,s,t⟩;dsimp only at o s t ⊢;refine ⟨by trivial,fun d=>?_,fun d B C=>?_⟩
   ·have d:0<=i:=by simpa using d
    obtain ⟨i,rfl⟩:=Int.eq_ofNat_of_zero_le d;simp (disch:=omega) only [i64w];have f:(af x).drop (i+1)=(af y).drop (i+1):=t;refine (g.le k).rd i rfl (by omega) ((j.le k).rd i rfl (by omega) ⟨fun u H I=>?_,fun u=>?_⟩)
    ·have:=jt (ax x) (by omega) (by omega) f (by simpa using u);rw [ab,ab] at this;rw [jT,if_pos this]
    ·refine (g.le k).rd i rfl (by omega) ((j.le k).rd i rfl (by omega) ⟨fun v H I=>?_,fun v=>?_⟩)
     ·have:=jt (ax y) (by omega) (by omega) f.symm (by simpa using v);rw [ab,ab] at this;rw [jT,if_neg (by omega),if_pos this]
     ·refine ⟨_,?_,by (try dsimp only);and_intros<;>trivial,?_,?_,?_⟩
      ·(try dsimp only);omega
      ·(try dsimp only);omega
      ·(try dsimp only);omega
      ·(try dsimp only)
       have:((i:Int)-1+1).toNat=i:=by omega
       rw [this,List.drop_eq_getElem_cons (by omega),List.drop_eq_getElem_cons (l:=af y) (by omega),f];congr 1;simp at u v;omega
   ·have d:i=-1:=by simp at d;omega
    subst d;have:af x=af y:=by simpa using t
    have:=uu this;subst this;simp [jT]
theorem tL {E A B c d x y W:Nat}(h:E+W*c=A+B)(hd:d=c+x+y):E+W*(d%4294967296)+W*4294967296*(d / 4294967296)=A+W*x+(B+W*y):=by
 have a:W*(d%4294967296)+W*4294967296*(d / 4294967296)=W*d:=by
  rw [Nat.mul_assoc,←Nat.mul_add,Nat.mod_add_div]
 rw [Nat.add_assoc,a,hd,Nat.mul_add,Nat.mul_add];omega
theorem Gj {V:View}{p q:OA}{n c m e:Nat}{xa xb:List Nat}(ha:RD V p n c xa)(hb:RD V q m e xb)(hm:xa.length<=1099511627776)(hn:xb.length<=1099511627776) :
  Acts prog 243 #[.slice p n c,.slice q m e] V fun r V'=>∃p' n' c',r=.slice p' n' c'/\RN V' p' n' c' (val xa+val xb):=by
 have A:=ha.len;have B:=hb.len;refine EL p n c q m e V _ ⟨fun z V'=>∃xs b,RD V' z.1 z.2.1 z.2.2.1 xs/\RD V' z.2.2.2.1 z.2.2.2.2.1 z.2.2.2.2.2 b/\b.length<=xs.length/\xs.length<=1099511627776/\val xs+val b=val xa+val xb,⟨fun C=>?_,fun C=>?_⟩,?_⟩
 ·exact ⟨(_,_,_,_,_,_),by (try dsimp only);and_intros<;>trivial,xb,xa,hb,ha,by simp at C;omega,hn,by omega⟩
 ·exact ⟨(_,_,_,_,_,_),by (try dsimp only);and_intros<;>trivial,xa,xb,ha,hb,by simp at C;omega,hm,rfl⟩
 ·rintro ⟨p,n,c,q,m,e⟩ N O ⟨xs,b,w,x,P,hm,hv⟩;dsimp only at w x ⊢;rw [←hv];clear hv ha hb A B;have K:=w.len;have Q:=x.len;simp (disch:=omega) only [i64w,cD];have D:((n:Int)+1).toNat=n+1:=by omega
  rw [D]
  refine ⟨by trivial,by omega,by omega,by omega,fun z V'=>0<=z.1/\z.1<=1/\0<=z.2.1/\z.2.1<=n/\∃es:List Nat,z.2.2=ay es/\es.length=n+1/\bM es /\
   val (es.take z.2.1.toNat)+4294967296^z.2.1.toNat*z.1.toNat=val (xs.take z.2.1.toNat)+val (b.take z.2.1.toNat),fun z=>n-z.2.1.toNat,⟨(0,0,ay (List.replicate (n+1) 0)),by (try dsimp only);and_intros<;>trivial,by (try dsimp only);omega,by (try dsimp only);omega,by (try dsimp only);omega,by (try dsimp only);omega,_,rfl,by simp,bM.rep _,by simp⟩,?_⟩
  rintro ⟨f,i,R⟩ V2 J ⟨l,E,o,F,es,rfl,G,s,hv⟩;dsimp only at l E o F hv ⊢;obtain ⟨i,rfl⟩:=Int.eq_ofNat_of_zero_le o;obtain ⟨f,rfl⟩:=Int.eq_ofNat_of_zero_le l;simp only [Int.toNat_natCast] at hv;refine ⟨by trivial,fun j=>?_,fun j=>?_⟩
  ·have j:i<n:=by simpa using j
   refine (w.le J).rd i rfl (by omega) ?_;have S:=w.fu.get (i:=i) (by omega)
   have next:∀d:Nat,d<8589934592->val (es.take i)+4294967296^i*(d%4294967296)+4294967296^i*4294967296*(d / 4294967296)=val (xs.take (i+1))+val (b.take (i+1)) ->
     ∃a:List Nat,(ay es).set i (.int .u32 ((d%4294967296:Nat):Int))=ay a/\a.length=n+1/\bM a /\
     val (a.take (i+1))+4294967296^(i+1)*(d / 4294967296)=val (xs.take (i+1))+val (b.take (i+1)):=by
    intro d T he;refine ⟨es.set i (d%4294967296),bj _ _ _,by simpa using G,s.set _ _ (by omega),?_⟩;rw [aD _ _ _ (by omega),Nat.pow_succ];exact he
   refine ⟨fun g=>?_,fun g=>?_⟩
   ·have g:i<m:=by simpa using g
    refine (x.le J).rd i rfl (by omega) ?_;have L:=x.fu.get (i:=i) (by omega);simp (disch:=omega) only [aH,i64w,il,lj];refine ⟨⟨by omega,by omega⟩,by simp;omega,by omega,(_,_,_),?_,by (try dsimp only);and_intros<;>trivial,?_⟩
    ·(try dsimp only);omega
    ·(try dsimp only)
     have h:((i:Int)+1).toNat=i+1:=by omega
     obtain ⟨a,t,u,H,I⟩:=next (f+xs[i]+b[i]) (by omega) (by rw [aq _ _ (by omega),aq _ _ (by omega)];exact tL hv rfl);refine ⟨by omega,by omega,by omega,by omega,a,?_,u,H,?_⟩
     ·rw [←t];simp
     ·rw [h,←I];congr 2
   ·have g:m<=i:=by simpa using g
    simp (disch:=omega) only [aH,i64w,il,lj];refine ⟨⟨by omega,by omega⟩,by simp;omega,by omega,(_,_,_),?_,by (try dsimp only);and_intros<;>trivial,?_⟩
    ·(try dsimp only);omega
    ·(try dsimp only)
     have h:((i:Int)+1).toNat=i+1:=by omega
     obtain ⟨a,t,u,H,I⟩:=next (f+xs[i]) (by omega) (by
      rw [aq _ _ (by omega),ai (ds:=b) (i:=i+1) (by omega)];have:=tL (y:=0) hv (d:=f+xs[i]) rfl
      rwa [ai (ds:=b) (by omega),Nat.mul_zero,Nat.add_zero] at this)
     refine ⟨by omega,by omega,by omega,by omega,a,?_,u,H,?_⟩
     ·rw [←t];simp
     ·rw [h,←I];congr 2
  ·have j:i=n:=by simp at j;omega
   subst j;simp (disch:=omega) only [pN];refine ⟨⟨by omega,by omega⟩,by simp;omega,fun U W X hb=>?_⟩;have t:(ay es).set (0+((i:Int).toNat)*1) (.int .u32 (f:Int))=ay (es.set i f):=by rw [←bj];simp
   rw [t] at hb;have v:=s.set i f (by omega);refine (aO (RD.aS hb v (n:=i+1) (c:=i+1) (by simp;omega) (Nat.le_refl _)) (by simp;omega)).mono ?_;rintro r Y Z ⟨k,rfl,g⟩;refine ⟨_,_,_,rfl,fun _ V5 M=>⟨_,_,_,rfl,?_⟩⟩;rw [aK v] at g
   have u:val (es.set i f)=val xs+val b:=by
    have:=aD es i f (by omega);rw [ai (by simp;omega)] at this;rw [this,hv,ai (by omega),ai (by omega)]
   rw [u] at g;exact g.le M
theorem JT {E A B c x y W:Nat}(h:E+B=A+W*c){v:Int}(hc:c<=1)(hx:x<4294967296)(hy:y<4294967296)(hv:v=((x:Int)-(c+y))%18446744073709551616) :
  0<=v/\v / 9223372036854775808<=1/\0<=v / 9223372036854775808/\E+W*(v%4294967296).toNat+(B+W*y)=A+W*x+W*4294967296*(v / 9223372036854775808).toNat:=by
 rcases Nat.lt_or_ge x (c+y) with d|d
 ·have e:v=18446744073709551616+(x:Int)-(c+y):=by omega
  have a:(v / 9223372036854775808).toNat=1:=by omega
  have b:(v%4294967296).toNat+(c+y)=x+4294967296:=by omega
  refine ⟨by omega,by omega,by omega,?_⟩;rw [a,Nat.mul_one];have:=congrArg (W*·) b;simp only [Nat.mul_add] at this;omega
 ·have e:v=(x:Int)-(c+y):=by omega
  have a:(v / 9223372036854775808).toNat=0:=by omega
  have b:(v%4294967296).toNat+(c+y)=x:=by omega
  refine ⟨by omega,by omega,by omega,?_⟩;rw [a,Nat.mul_zero,Nat.add_zero];have:=congrArg (W*·) b;simp only [Nat.mul_add] at this;omega
theorem DP {V:View}{p q:OA}{n c m e:Nat}{xs ys:List Nat}(hx:RD V p n c xs)(hy:RD V q m e ys)(hm:xs.length<=1099511627776)(hl:ys.length<=xs.length)(hle:val ys<=val xs) :
  Acts prog 247 #[.slice p n c,.slice q m e] V fun r V'=>∃p' n' c',r=.slice p' n' c'/\RN V' p' n' c' (val xs-val ys):=by
 have C:=hx.len;have N:=hy.len
 refine Dh p n c q m e V _ ⟨by omega,by omega,by omega,fun z V'=>0<=z.1/\z.1<=1/\0<=z.2.1/\z.2.1<=n/\∃es:List Nat,z.2.2=ay es/\es.length=n/\bM es /\
   val (es.take z.2.1.toNat)+val (ys.take z.2.1.toNat)=val (xs.take z.2.1.toNat)+4294967296^z.2.1.toNat*z.1.toNat,fun z=>n-z.2.1.toNat,
   ⟨(0,0,List.replicate n (.int .u32 0)),by (try dsimp only);and_intros<;>trivial,by (try dsimp only);omega,by (try dsimp only);omega,by (try dsimp only);omega,by (try dsimp only);omega,List.replicate n 0,cD n,by simp,bM.rep _,by simp⟩,?_⟩
 rintro ⟨j,i,O⟩ V2 A ⟨l,s,o,u,es,rfl,d,a,hv⟩;dsimp only at l s o u hv ⊢;obtain ⟨i,rfl⟩:=Int.eq_ofNat_of_zero_le o;obtain ⟨j,rfl⟩:=Int.eq_ofNat_of_zero_le l;simp only [Int.toNat_natCast] at hv;refine ⟨by trivial,fun f=>?_,fun f=>?_⟩
 ·have f:i<n:=by simpa using f
  refine (hx.le A).rd i rfl (by omega) ?_;have D:=hx.fu.get (i:=i) (by omega);refine ⟨fun z V'=>∃y:Nat,z=j+y/\y<4294967296/\val (ys.take (i+1))=val (ys.take i)+4294967296^i*y,⟨fun b=>?_,fun b=>?_⟩,?_⟩
  ·have b:i<m:=by simpa using b
   refine (hy.le A).rd i rfl (by omega) ?_;have g:=hy.fu.get (i:=i) (by omega);simp (disch:=omega) only [aH];exact ⟨_,by (try dsimp only);and_intros<;>trivial,ys[i],rfl,g,aq _ _ (by omega)⟩
  ·have b:m<=i:=by simpa using b
   exact ⟨_,by (try dsimp only);and_intros<;>trivial,0,by simp,by omega,by rw [ai (by omega),ai (by omega)];simp⟩
  ·rintro t E F ⟨y,rfl,g,w⟩;refine ⟨by trivial,⟨by omega,by simpa using f⟩,by simp;omega,by omega,?_⟩;simp (disch:=omega) only [aH,i64w,qV,il,JN];obtain ⟨v,B⟩:∃v:Int,v=((xs[i]:Int)-((j:Int)+(y:Int)))%18446744073709551616:=⟨_,rfl⟩;obtain ⟨P,G,H,I⟩:=JT hv (by omega) D g B;rw [←B];refine ⟨(_,_,_),?_,by (try dsimp only);and_intros<;>trivial,?_⟩
   ·(try dsimp only);omega
   ·(try dsimp only)
    have x:((i:Int)+1).toNat=i+1:=by omega
    refine ⟨H,G,by omega,by omega,es.set i (v%4294967296).toNat,?_,by simpa using d,a.set _ _ (by omega),?_⟩
    ·rw [←bj];congr 2
     ·simp
     ·omega
    ·rw [x,aD _ _ _ (by omega),w,I,aq _ _ (by omega),Nat.pow_succ]
 ·have f:i=n:=by simp at f;omega
  subst f;intro E F Q J;refine (aO (RD.aS J a (n:=i) (c:=i) d.symm (Nat.le_refl _)) (by omega)).mono ?_;rintro r R S ⟨k,rfl,b⟩;refine ⟨_,_,_,rfl,fun _ T K=>⟨_,_,_,rfl,?_⟩⟩;rw [aK a] at b;rw [ai (by omega),ai (by omega),ai (by omega)] at hv;have L:=fW a;rw [d] at L
  have M:j=0:=by
   rcases Nat.eq_zero_or_pos j with h|h
   ·exact h
   ·have:4294967296^i*1<=4294967296^i*j:=Nat.mul_le_mul_left _ h;omega
  subst M;rw [show val es=val xs-val ys from by omega] at b;exact b.le K
theorem fO {a b:Nat}:jT a b<0↔a<b:=by
 unfold jT;split
 ·simp;omega
 ·split<;>simp<;>omega
theorem jU {a b:Nat}:jT a b=0↔a=b:=by
 unfold jT;split
 ·simp;omega
 ·split
  ·simp;omega
  ·simp;omega
theorem yA {V:View}{p q:OA}{n c m e:Nat}{xa xb:List Nat}(ha:RD V p n c xa)(hb:RD V q m e xb)(hm:xa.length<=1099511627776)(hn:xb.length<=1099511627776) :
  Acts prog 244 #[.slice p n c,.slice q m e] V fun r V'=>∃p' n' c',r=.tuple #[.slice p' n' c',.bool (decide (val xb<=val xa))]/\RN V' p' n' c' (val xa-val xb):=by
 refine ES p n c q m e V _ fun u b=>(yw (ha.le b) (hb.le b) hm hn).mono ?_;rintro r V2 f rfl;refine ⟨_,rfl,fun a l d=>?_,fun a l d=>?_⟩
 ·have a:val xa<val xb:=by simpa [fO] using a
  rw [Nat.sub_eq_zero_of_le (by omega),decide_eq_false (by omega)];exact ⟨_,_,_,rfl,RD.nil⟩
 ·have a:val xb<=val xa:=by simpa [←Int.not_lt,fO] using a
  rw [decide_eq_true a];refine (aO ((ha.le b).le (f.trans d)) (by omega)).mono ?_;rintro r v o ⟨w,rfl,g⟩;refine ⟨_,_,_,rfl,fun x h=>(aO ((hb.le b).le (f.trans (d.trans (o.trans h)))) (by omega)).mono ?_⟩;rintro r y s ⟨z,rfl,i⟩;rw [aK ha.fu] at g;rw [aK hb.fu] at i;have:=bo ha.fu;refine ⟨_,_,_,rfl,fun A j=>(DP (g.le (h.trans (s.trans j))) (i.le j) (by omega) (aA a) (by rw [ab,ab];exact a)).mono ?_⟩;rintro r B C ⟨p',n',c',rfl,k⟩;rw [ab,ab] at k;exact ⟨_,_,_,rfl,fun D t=>⟨_,_,_,rfl,k.le t⟩⟩
theorem Jh (a b:Nat)(ha:a<4294967296)(hb:b<4294967296):bg .or .u64 (b:Int) ((a:Int)*4294967296)=(b:Int)+(a:Int)*4294967296:=by
 have h:bg .or .u64 (b:Int) ((a:Int)*4294967296)=bg .or .u64 ((a:Int)*4294967296) (b:Int):=by
  simp only [bg,BitVec.or_comm]
 rw [h,Cz a b ha hb];omega
theorem Qf (b:Nat)(hb:b<4294967296):bg .or .u64 0 (b:Int)=b:=by
 have:=Cz 0 b (by omega) hb;simpa using this
theorem kJ {V:View}{p:OA}{n c:Nat}{ds:List Nat}(h:RD V p n c ds)(hm:ds.length<=1099511627776) :
  Acts prog 186 #[.slice p n c] V fun r V'=>r=.tuple #[.int .u64 ((if val ds<18446744073709551616 then val ds else 0:Nat):Int),.bool (decide (val ds<18446744073709551616))]:=by
 refine Dg p n c V _ fun y q=>(aO (h.le q) (by omega)).mono ?_;rintro r V2 A ⟨n,rfl,e⟩;rw [aK h.fu] at e;generalize val ds=x at *;have B:=e.len;have C:(af x).length<=2↔x<18446744073709551616:=az (k:=2);refine ⟨_,_,_,rfl,fun a D E=>?_,fun a=>?_⟩
 ·have a:¬x<18446744073709551616:=by simp at a;omega
  rw [if_neg a,decide_eq_false a];rfl
 ·have m:x<18446744073709551616:=by simp at a;omega
  rw [if_pos m,decide_eq_true m];have F:n<=2:=by omega
  refine ⟨fun z V'=>0<=z.2/\z.2<=n/\z.1=(val ((af x).take z.2.toNat):Int),fun z=>n-z.2.toNat,⟨(0,0),by (try dsimp only);and_intros<;>trivial,by (try dsimp only);omega,by (try dsimp only);omega,by simp⟩,?_⟩;rintro ⟨u,i⟩ G s ⟨d,f,hu⟩;dsimp only at d f hu ⊢;subst hu;obtain ⟨i,rfl⟩:=Int.eq_ofNat_of_zero_le d;simp only [Int.toNat_natCast];refine ⟨by trivial,fun b=>?_,fun b H I=>?_⟩
  ·have b:i<n:=by simpa using b
   refine (e.le s).rd i rfl (by omega) ?_;have o:=(ax x).get (i:=i) (by omega);simp (disch:=omega) only [i64w];refine ⟨by omega,(_,_),?_,by (try dsimp only);and_intros<;>trivial,?_⟩
   ·(try dsimp only);omega
   ·(try dsimp only)
    refine ⟨by omega,by omega,?_⟩;have g:((i:Int)+1).toNat=i+1:=by omega
    rw [g,aq _ _ (by omega)];have t:i=0\/i=1:=by omega
    rcases t with rfl|rfl
    ·simp (disch:=omega) only [aH];have j:(min ((32:Int)*((0:Nat):Int)).toNat IntKind.u64.bits)=0:=by decide
     rw [j];simp (disch:=omega) only [aH,Int.pow_zero,Int.mul_one,List.take_zero,eh,Nat.pow_zero,Nat.one_mul,Nat.zero_add];exact Qf _ o
    ·have j:(min ((32:Int)*((1:Nat):Int)).toNat IntKind.u64.bits)=32:=by decide
     have a:0<(af x).length:=by omega
     have l:=(ax x).get (i:=0) a;have v:(af x).take 1=[(af x)[0]]:=by rw [List.take_succ_eq_append_getElem a];rfl
     have w:((2:Int)^32)=4294967296:=by decide
     rw [j,v,w];simp (disch:=omega) only [aH];simp only [aY,eh,Nat.mul_zero,Nat.add_zero];rw [Jh _ _ o l];omega
  ·have b:i=n:=by simp at b;omega
   subst b;rw [ai (by omega),ab]
theorem iG {V:View}{p:OA}{n c:Nat}{ds:List Nat}(h:RD V p n c ds)(hm:ds.length<=1099511627776) :
  Acts prog 181 #[.slice p n c] V fun r V'=>r=.int .i64 (bD (val ds):Int):=by
 have k:=bo h.fu;refine De p n c V _ fun t l=>(aO (h.le l) (by omega)).mono ?_;rintro r V2 u ⟨n,rfl,g⟩;rw [aK h.fu] at g;generalize val ds=x at *;have m:=g.len;refine ⟨_,_,_,rfl,fun f v w=>?_,fun f=>?_⟩
 ·have:af x=[]:=List.length_eq_zero_iff.1 (by simp at f;omega);have:=bE.1 this;subst this;rfl
 ·have f:0<n:=by simp at f;omega
  simp (disch:=omega) only [i64w];refine g.rd (n-1) (by omega) (by omega) fun y z=>(fY _ ((ax x).get (by omega))).mono ?_;rintro r A B rfl;refine ⟨_,rfl,fun C D=>?_⟩;have E:=(ax x).get (i:=n-1) (by omega)
  have a:(af x)[n-1]≠0:=by
   have:=(iV x).last (by omega);simpa [m] using this
  have F:bD (af x)[n-1]<=32:=jh.2 (by omega);simp (disch:=omega) only [i64w]
  have key:bD x=32*(n-1)+bD (af x)[n-1]:=by
   have e:=gu (af x) (n-1) (by omega);rw [ab,List.drop_of_length_le (by omega)] at e;simp only [eh,Nat.mul_zero,Nat.add_zero] at e;have b:=fW ((ax x).take (n-1));rw [List.length_take,Nat.min_eq_left (by omega)] at b;have j:(4294967296:Nat)^(n-1)=2^(32*(n-1)):=by rw [Nat.pow_mul]
   rw [j] at e b;generalize (af x)[n-1]=d at *;have o:=pf d;have q:=oZ a;have s:0<bD d:=by unfold bD;rw [if_neg a];omega
   refine rC ?_ (.inr ?_)
   ·rw [Nat.pow_add];have:2^(32*(n-1))*(d+1)<=2^(32*(n-1))*2^bD d:=Nat.mul_le_mul_left _ o;rw [Nat.mul_add,Nat.mul_one] at this;omega
   ·rw [show 32*(n-1)+bD d-1=32*(n-1)+(bD d-1) from by omega,Nat.pow_add];have:2^(32*(n-1))*2^(bD d-1)<=2^(32*(n-1))*d:=Nat.mul_le_mul_left _ q;omega
  rw [key];congr 1;omega
theorem Cr {E S c t x y e Y B D:Nat}(h:E+B*D*c=S+B*x*Y)(ht:t=c+x*y+e) :
  E+B*D*(t%4294967296)+B*D*4294967296*(t / 4294967296)=S+B*D*e+B*x*(Y+D*y):=by
 have a:B*D*(t%4294967296)+B*D*4294967296*(t / 4294967296)=B*D*t:=by
  rw [Nat.mul_assoc (B*D),←Nat.mul_add,Nat.mod_add_div]
 rw [Nat.add_assoc,a,ht];grind
theorem gg {V:View}{p q:OA}{n c m e:Nat}{xa xb:List Nat}(ha:RD V p n c xa)(hb:RD V q m e xb)(hm:xa.length+xb.length<=1099511627776) :
  Acts prog 206 #[.slice p n c,.slice q m e] V fun r V'=>∃p' n' c',r=.slice p' n' c'/\RN V' p' n' c' (val xa*val xb):=by
 have la:=bo ha.fu;have lb:=bo hb.fu;refine EO p n c q m e V _ fun V1 L=>(aO (ha.le L) (by omega)).mono ?_;rintro r V2 S ⟨n,rfl,o⟩;rw [aK ha.fu] at o;refine ⟨_,_,_,rfl,fun V3 M=>(aO (hb.le (L.trans (S.trans M))) (by omega)).mono ?_⟩;rintro r V4 T ⟨m,rfl,B⟩;rw [aK hb.fu] at B
 replace o:=o.le (M.trans T)
 have U:=o.len;have Be:=B.len;have N:val xa=val (af (val xa)):=(ab _).symm;have O:val xb=val (af (val xb)):=(ab _).symm;rw [N,O];clear N O;generalize af (val xa)=xs at *;generalize af (val xb)=ys at *;refine ⟨_,_,_,rfl,?_⟩;simp (disch:=omega) only [i64w,cD];have D:((n:Int)+m).toNat=n+m:=by omega
 rw [D]
 refine ⟨by omega,by omega,by omega,fun z V'=>0<=z.1/\z.1<=n/\∃es:List Nat,z.2=ay es/\es.length=n+m/\bM es /\
  val (es.take (z.1.toNat+m))=val (xs.take z.1.toNat)*val ys,fun z=>n-z.1.toNat,⟨(0,ay (List.replicate (n+m) 0)),by (try dsimp only);and_intros<;>trivial,by (try dsimp only);omega,by (try dsimp only);omega,_,rfl,by simp,bM.rep _,by simp [tH,List.take_replicate]⟩,?_⟩
 rintro ⟨i,W⟩ V5 P ⟨u,E,es,rfl,F,g,hv⟩;dsimp only at u E hv ⊢;obtain ⟨i,rfl⟩:=Int.eq_ofNat_of_zero_le u;simp only [Int.toNat_natCast] at hv;refine ⟨by trivial,fun s=>?_,fun s=>?_⟩
 ·have s:i<n:=by simpa using s
  refine (o.le P).rd i rfl (by omega) ?_;have yO:=o.fu.get (i:=i) (by omega)
  refine ⟨fun z V'=>0<=z.1/\z.1<=4294967295/\0<=z.2.1/\z.2.1<=m/\∃a:List Nat,z.2.2=ay a/\a.length=n+m/\bM a/\a.drop (i+z.2.1.toNat)=es.drop (i+z.2.1.toNat) /\
   val (a.take (i+z.2.1.toNat))+4294967296^(i+z.2.1.toNat)*z.1.toNat=val (es.take (i+z.2.1.toNat))+4294967296^i*xs[i]*val (ys.take z.2.1.toNat),fun z=>m-z.2.1.toNat,
   ⟨(0,0,ay es),by (try dsimp only);and_intros<;>trivial,by (try dsimp only);omega,by (try dsimp only);omega,by (try dsimp only);omega,by (try dsimp only);omega,es,rfl,F,g,rfl,by simp⟩,?_⟩
  rintro ⟨C,k,W⟩ X Q ⟨v,G,w,H,a,rfl,y,h,f,hw⟩;dsimp only at v G w H f hw ⊢;obtain ⟨k,rfl⟩:=Int.eq_ofNat_of_zero_le w;obtain ⟨C,rfl⟩:=Int.eq_ofNat_of_zero_le v;simp only [Int.toNat_natCast] at f hw;refine ⟨by trivial,fun d=>?_,fun d=>?_⟩
  ·have d:k<m:=by simpa using d
   refine (B.le (P.trans Q)).rd k rfl (by omega) ?_;have Y:=B.fu.get (i:=k) (by omega);have SI:=h.get (i:=i+k) (by omega)
   have I:a[i+k]'(by omega)=es[i+k]'(by omega):=by
    have R:a[i+k]?=es[i+k]?:=by
     have:=congrArg (fun l=>l[0]?) f;simpa [List.getElem?_drop] using this
    rw [List.getElem?_eq_getElem (by omega),List.getElem?_eq_getElem (by omega)] at R;exact Option.some.inj R
   simp (disch:=omega) only [i64w];have j:((i:Int)+k).toNat=i+k:=by omega
   rw [j];refine ⟨⟨by omega,by omega⟩,((a[i+k]'(by omega):Nat):Int),by rw [Nat.zero_add,Nat.mul_one];exact fU (by omega),⟨by omega,by omega⟩,by simp;omega,by omega,?_⟩;have Z:xs[i]*ys[k]<=4294967295*4294967295:=Nat.mul_le_mul (by omega) (by omega);have Np:(xs[i]:Int)*(ys[k]:Int)=((xs[i]*ys[k]:Nat):Int):=by simp
   obtain ⟨t,ht⟩:∃t:Nat,t=C+xs[i]*ys[k]+a[i+k]'(by omega):=⟨_,rfl⟩;rw [Nat.pow_add] at hw;have b:=Cr hw ht
   have e1:u64.wrap ((C:Int)+u64.wrap (u64.wrap (u64.wrap (xs[i]:Int)*u64.wrap (ys[k]:Int))+u64.wrap ((a[i+k]'(by omega):Nat):Int)))=(t:Int):=by
    clear b;generalize xs[i]*ys[k]=pq at *;rw [aH (x:=(xs[i]:Int)) (by omega),aH (x:=(ys[k]:Int)) (by omega),Np,aH (x:=((pq:Nat):Int)) (by omega)];simp (disch:=omega) only [aH];omega
   rw [e1,il,lj];refine ⟨(_,_,_),?_,by (try dsimp only);and_intros<;>trivial,?_⟩
   ·(try dsimp only);omega
   ·(try dsimp only)
    have A:((k:Int)+1).toNat=k+1:=by omega
    refine ⟨by omega,by omega,by omega,by omega,a.set (i+k) (t%4294967296),?_,by simpa using y,h.set _ _ (by omega),?_,?_⟩
    ·rw [←bj];simp
    ·rw [A,List.drop_set_of_lt (by omega)];have:=congrArg (List.drop 1) f;simpa [List.drop_drop,Nat.add_comm,Nat.add_assoc,Nat.add_left_comm] using this
    ·rw [A,show i+(k+1)=i+k+1 from by omega,aD _ _ _ (by omega),aq es (i+k) (by omega),aq ys k (by omega),←I,Nat.pow_succ];have e2:((t:Int) / 4294967296).toNat=t / 4294967296:=by omega
     rw [e2,Nat.pow_add,b]
  ·have d:k=m:=by simp at d;omega
   subst d;simp (disch:=omega) only [i64w];have j:((i:Int)+k).toNat=i+k:=by omega
   rw [j];refine ⟨⟨by omega,by omega⟩,by simp;omega,(_,_),?_,by (try dsimp only);and_intros<;>trivial,?_⟩
   ·(try dsimp only);omega
   ·(try dsimp only)
    have J:((i:Int)+1).toNat=i+1:=by omega
    refine ⟨by omega,by omega,a.set (i+k) C,?_,by simpa using y,h.set _ _ (by omega),?_⟩
    ·rw [←bj,pN (by omega)];simp
    ·rw [J,show i+1+k=i+k+1 from by omega,aD _ _ _ (by omega),hw,hv,aq xs i (by omega),ai (ds:=ys) (by omega)];grind
 ·have s:i=n:=by simp at s;omega
  subst s;intro X Q bk K;refine (aO (RD.aS K g (n:=i+m) (c:=i+m) (by omega) (Nat.le_refl _)) (by omega)).mono ?_;rintro r V7 l7 ⟨k,rfl,d⟩;refine ⟨_,_,_,rfl,fun _ V8 l8=>⟨_,_,_,rfl,?_⟩⟩;rw [aK g] at d;rw [ai (by omega),ai (by omega)] at hv;rw [hv] at d;exact d.le l8
theorem vy {x A d q r rest B W:Nat}(hA:A=d*B+rest)(h:d*q+r=rest*W+x):x+W*A=d*(q+W*B)+r:=by
 subst hA;grind
theorem BB {V:View}{p:OA}{n c:Nat}{xs:List Nat}(hx:RD V p n c xs)(hm:xs.length<=1099511627776)(d:Nat)(hd0:d≠0)(hd:d<4294967296) :
  Acts prog 224 #[.slice p n c,.int .u32 (d:Int)] V fun r V'=>∃p' n' c',r=.tuple #[.slice p' n' c',.int .u32 ((val xs%d:Nat):Int)]/\RN V' p' n' c' (val xs / d):=by
 have v:=hx.len;refine AR p n c d V _ ⟨by omega,by omega,by omega,?_⟩;simp (disch:=omega) only [i64w,aH,Int.toNat_natCast,cD]
 refine ⟨fun z V'=>0<=z.1/\z.1<d/\-1<=z.2.1/\z.2.1<n/\∃es:List Nat,z.2.2=ay es/\es.length=n/\bM es /\
   val (xs.drop (z.2.1+1).toNat)=d*val (es.drop (z.2.1+1).toNat)+z.1.toNat,fun z=>(z.2.1+1).toNat,
   ⟨(0,(n:Int)-1,ay (List.replicate n 0)),by (try dsimp only);and_intros<;>trivial,by (try dsimp only);omega,by (try dsimp only);omega,by (try dsimp only);omega,by (try dsimp only);omega,_,rfl,by simp,bM.rep _,?_⟩,?_⟩
 ·(try dsimp only)
  rw [List.drop_of_length_le (by omega),List.drop_of_length_le (by simp)];rfl
 rintro ⟨rest,i,F⟩ V2 w ⟨e,f,g,h,es,rfl,j,a,hv⟩;dsimp only at e f g h hv ⊢;obtain ⟨rest,rfl⟩:=Int.eq_ofNat_of_zero_le e;refine ⟨by trivial,fun b=>?_,fun b=>?_⟩
 ·have b:0<=i:=by simpa using b
  obtain ⟨i,rfl⟩:=Int.eq_ofNat_of_zero_le b;have m:((i:Int)+1).toNat=i+1:=by omega
  rw [m] at hv;simp only [Int.toNat_natCast] at hv;refine ⟨by omega,(hx.le w).rd i rfl (by omega) ?_⟩;have x:=hx.fu.get (i:=i) (by omega)
  have o:bg .or .u64 (u64.wrap ((rest:Int)*2^32)) (u64.wrap ((xs[i]:Nat):Int))=((rest*4294967296+xs[i]:Nat):Int):=by
   have y:((2:Int)^32)=4294967296:=by decide
   rw [y,aH (by omega),aH (by omega),Cz _ _ (by omega) x];omega
  rw [o]
  have s:((rest*4294967296+xs[i]:Nat):Int).tdiv (d:Int)=(((rest*4294967296+xs[i]) / d:Nat):Int):=by
   rw [Int.tdiv_eq_ediv_of_nonneg (by omega)];omega
  have A:((rest*4294967296+xs[i]:Nat):Int).tmod (d:Int)=(((rest*4294967296+xs[i])%d:Nat):Int):=by
   rw [Int.tmod_eq_emod_of_nonneg (by omega)];omega
  rw [s,A]
  have G:(rest*4294967296+xs[i]) / d<4294967296:=by
   rw [Nat.div_lt_iff_lt_mul (by omega)];have:rest+1<=d:=by omega
   have:=Nat.mul_le_mul_right 4294967296 this;rw [Nat.mul_comm 4294967296 d];omega
  have H:(rest*4294967296+xs[i])%d<d:=Nat.mod_lt _ (by omega);have B:=Nat.div_add_mod (rest*4294967296+xs[i]) d;generalize (rest*4294967296+xs[i]) / d=q at *;generalize (rest*4294967296+xs[i])%d=r at *;simp (disch:=omega) only [aH,pN,i64w];refine ⟨by omega,⟨by omega,by omega⟩,by simp;omega,by omega,?_⟩;refine ⟨((r:Int),(i:Int)-1,ay (es.set i q)),?_,?_,?_⟩
  ·(try dsimp only);omega
  ·(try dsimp only);and_intros<;>first|trivial|(rw [←bj];simp)
  ·(try dsimp only)
   refine ⟨by omega,by omega,by omega,by omega,_,rfl,by simpa using j,a.set _ _ (by omega),?_⟩;have t:((i:Int)-1+1).toNat=i:=by omega
   rw [t,List.drop_eq_getElem_cons (by omega),List.drop_eq_getElem_cons (l:=es.set i q) (by simp;omega),List.getElem_set_self,List.drop_set_of_lt (by omega)];have C:xs[i]+4294967296*val (List.drop (i+1) xs)=d*(q+4294967296*val (List.drop (i+1) es))+r:=vy hv B;rw [aY,aY,Int.toNat_natCast];exact C
 ·have b:i=-1:=by simp at b;omega
  subst b;simp only [Int.toNat_natCast] at hv;have hv:val xs=d*val es+rest:=by simpa using hv
  intro I J K D;refine (aO (RD.aS D a (n:=n) (c:=n) (by omega) (Nat.le_refl _)) (by omega)).mono ?_;rintro r L M ⟨k,rfl,u⟩;refine ⟨_,_,_,rfl,fun _ N E=>?_⟩;have o:val xs / d=val es:=by rw [hv,Nat.mul_add_div (by omega),Nat.div_eq_of_lt (by omega),Nat.add_zero]
  have s:val xs%d=rest:=by rw [hv,Nat.mul_add_mod,Nat.mod_eq_of_lt (by omega)]
  rw [pN (by omega),o,s];rw [aK a] at u;exact ⟨_,_,_,rfl,u.le E⟩
theorem Ei (a b:Nat)(ha:a<4294967296)(hb:b<4294967296):bg .or .u32 (a:Int) (b:Int)=((a ||| b:Nat):Int):=by
 rw [bg,il]
 have c:(BitVec.ofInt IntKind.u32.bits ((a:Nat):Int) ||| BitVec.ofInt IntKind.u32.bits (b:Int)).toNat=a ||| b:=by
  show (BitVec.ofInt 32 ((a:Nat):Int) ||| BitVec.ofInt 32 (b:Int)).toNat=_;rw [BitVec.ofInt_natCast,BitVec.ofInt_natCast,BitVec.toNat_or,BitVec.toNat_ofNat,BitVec.toNat_ofNat,Nat.mod_eq_of_lt (by omega),Nat.mod_eq_of_lt (by omega)]
 have d:a ||| b<2^32:=Nat.or_lt_two_pow (by omega) (by omega);rw [c];omega
theorem NP {c m r:Nat}(h:c<2^r):c ||| m*2^r=c+m*2^r:=by
 rw [Nat.or_comm,←Nat.shiftLeft_eq,←Nat.shiftLeft_add_eq_or_of_lt h,Nat.add_comm]
theorem CT {d r c:Nat}(hd:d<4294967296)(hr:r<32)(hc:c<2^r) :
  c ||| (d*2^r%4294967296)=c+d*2^r%4294967296/\c+d*2^r%4294967296<4294967296/\d*2^r / 4294967296<2^r/\d*2^r<18446744073709551616:=by
 have e:4294967296=2^(32-r)*2^r:=by rw [←Nat.pow_add,Nat.sub_add_cancel (by omega)]
 have a:d*2^r%4294967296=(d%2^(32-r))*2^r:=by
  rw [e,Nat.mul_mod_mul_right]
 have f:d%2^(32-r)+1<=2^(32-r):=Nat.mod_lt _ (Nat.two_pow_pos _);have b:=Nat.mul_le_mul_right (2^r) f;have h:2^r<=2^31:=Nat.pow_le_pow_right (by omega) (by omega);have g:d*2^r<4294967296*2^r:=Nat.mul_lt_mul_of_pos_right hd (Nat.two_pow_pos _);refine ⟨by rw [a,NP hc],?_,?_,by omega⟩
 ·rw [a];rw [Nat.add_mul,Nat.one_mul] at b;rw [←e] at b;omega
 ·rw [Nat.div_lt_iff_lt_mul (by omega),Nat.mul_comm (2^r)];exact g
theorem yy {V:View}{p:OA}{n c:Nat}{ds:List Nat}(h:RD V p n c ds)(hm:ds.length<=1099511627776)(k:Nat)(hk:k<=1048576) :
  Acts prog 239 #[.slice p n c,.int .u64 (k:Int)] V fun r V'=>∃p' n' c',r=.slice p' n' c'/\RN V' p' n' c' (val ds*2^k)/\(val ds=0\/c'=(af (val ds)).length+k / 32+1):=by
 have F:=bo h.fu;refine EP p n c k V _ fun X G=>(aO (h.le G) (by omega)).mono ?_;rintro r V2 Y ⟨n,rfl,m⟩;rw [aK h.fu] at m;generalize hxv:val ds=x at *;have Z:=m.len;refine ⟨_,_,_,rfl,fun l V3 l3=>?_,fun l=>?_⟩
 ·have:af x=[]:=List.length_eq_zero_iff.1 (by simp at l;omega);have:=bE.1 this;subst this;rw [Nat.zero_mul];exact ⟨_,_,_,rfl,RD.nil,.inl rfl⟩
 ·have l:0<n:=by simp at l;omega
  have B:bJ (k:Int) 1048576=k:=by unfold bJ;rw [if_neg (by omega)]
  have C:(k:Int).tdiv 32=((k / 32:Nat):Int):=by rw [Int.tdiv_eq_ediv_of_nonneg (by omega)];omega
  have D:(k:Int).tmod 32=((k%32:Nat):Int):=by rw [Int.tmod_eq_emod_of_nonneg (by omega)];omega
  rw [B,C,D]
  have o:x*2^k=4294967296^(k / 32)*x*2^(k%32):=by
   have:2^k=4294967296^(k / 32)*2^(k%32):=by
    rw [show (4294967296:Nat)=2^32 from rfl,←Nat.pow_mul,←Nat.pow_add,Nat.div_add_mod]
   rw [this];grind
  rw [o];generalize hw:k / 32=w at *;have q:k%32<32:=Nat.mod_lt _ (by omega);have H:w<=32768:=by omega
  generalize k%32=r at *;clear B C D;simp (disch:=omega) only [i64w,aH,cD];have s:((n:Int)+w+1).toNat=n+w+1:=by omega
  rw [s]
  refine ⟨by omega,by omega,by omega,by omega,by omega,fun z V'=>0<=z.1/\z.1<=n/\∃es:List Nat,z.2=ay es/\es.length=n+w+1/\bM es/\(∀c,es[z.1.toNat+w]?=some c->c<2^r) /\
   val (es.take (z.1.toNat+w+1))=4294967296^w*val ((af x).take z.1.toNat)*2^r,fun z=>n-z.1.toNat,
   ⟨(0,ay (List.replicate (n+w+1) 0)),by (try dsimp only);and_intros<;>trivial,by (try dsimp only);omega,by (try dsimp only);omega,_,rfl,by simp,bM.rep _,?_,?_⟩,?_⟩
  ·intro c a;rw [List.getElem?_replicate] at a;split at a
   ·cases a;exact Nat.two_pow_pos r
   ·cases a
  ·simp [List.take_replicate,tH]
  rintro ⟨i,vs⟩ V4 I ⟨e,t,es,rfl,u,b,a,hv⟩;dsimp only at e t a hv ⊢;obtain ⟨i,rfl⟩:=Int.eq_ofNat_of_zero_le e;simp only [Int.toNat_natCast] at a hv;refine ⟨by trivial,fun d=>?_,fun d=>?_⟩
  ·have d:i<n:=by simpa using d
   refine (m.le I).rd i rfl (by omega) ?_;have J:=(ax x).get (i:=i) (by omega);have v:=a (es[i+w]'(by omega)) (List.getElem?_eq_getElem _);obtain ⟨K,g2,L,g4⟩:=CT J q v
   have f:(min ((r:Nat):Int).toNat IntKind.u64.bits)=r:=by
    show min _ 64=r;omega
   have M:((2:Int)^r)=((2^r:Nat):Int):=by simp
   rw [f,M];have hmul:(((af x)[i]:Nat):Int)*((2^r:Nat):Int)=(((af x)[i]*2^r:Nat):Int):=by simp
   simp (disch:=omega) only [i64w];rw [aH (x:=(((af x)[i]:Nat):Int)) (by omega),hmul,aH (by omega),il,lj];have y:((i:Int)+w).toNat=i+w:=by omega
   have N:((i:Int)+w+1).toNat=i+w+1:=by omega
   rw [y,N];refine ⟨by omega,⟨by omega,by omega⟩,((es[i+w]'(by omega):Nat):Int),by rw [Nat.zero_add,Nat.mul_one];exact fU (by omega),⟨by omega,by omega⟩,by simp;omega,by omega,⟨by omega,by omega⟩,by simp;omega,?_⟩;have O:(((af x)[i]*2^r:Nat):Int)%4294967296=(((af x)[i]*2^r%4294967296:Nat):Int):=by omega
   have P:(((af x)[i]*2^r:Nat):Int) / 4294967296=(((af x)[i]*2^r / 4294967296:Nat):Int):=by omega
   rw [O,P,Ei _ _ (by omega) (by omega),K];have Q:=Nat.mod_add_div ((af x)[i]*2^r) 4294967296;have R:(af x)[i]*2^r / 4294967296<4294967296:=by omega
   have A:val (List.take (i+1) (af x))=val (List.take i (af x))+4294967296^i*(af x)[i]:=aq _ _ (by omega);have S:val (es.take (i+w+1))=val (es.take (i+w))+4294967296^(i+w)*es[i+w]'(by omega):=aq _ _ (by omega);generalize (af x)[i]*2^r%4294967296=lo at *;generalize hhi:(af x)[i]*2^r / 4294967296=hi at *;rw [pN (by omega)];refine ⟨((i:Int)+1,ay ((es.set (i+w) (es[i+w]'(by omega)+lo)).set (i+w+1) hi)),?_,?_,?_⟩
   ·(try dsimp only);omega
   ·(try dsimp only);and_intros<;>first|trivial|(rw [←bj,←bj];simp)
   ·(try dsimp only)
    have g:((i:Int)+1).toNat=i+1:=by omega
    refine ⟨by omega,by omega,_,rfl,by simpa using u,(b.set _ _ (by omega)).set _ _ (by omega),?_,?_⟩
    ·intro c j;rw [g,show i+1+w=i+w+1 from by omega,List.getElem?_set_self (by simp;omega)] at j;cases j;exact L
    ·rw [g,show i+1+w+1=i+w+1+1 from by omega,aD _ _ _ (by simp;omega),aD _ _ _ (by omega),A];rw [S] at hv;have T:4294967296^(i+w+1)*hi=4294967296^(i+w)*(4294967296*hi):=by rw [Nat.pow_succ];grind
     rw [T,Nat.mul_add,←Nat.add_assoc,hv,Nat.add_assoc,←Nat.mul_add,Q,Nat.pow_add];grind
  ·have d:i=n:=by simp at d;omega
   subst d;intro V5 l5 bk U;refine (aO (RD.aS U b (n:=i+w+1) (c:=i+w+1) (by omega) (Nat.le_refl _)) (by omega)).mono ?_;rintro r' V6 l6 ⟨k',rfl,E⟩;refine ⟨_,_,_,rfl,fun _ V7 W=>⟨_,_,_,rfl,?_,.inr (by omega)⟩⟩;rw [ai (by omega),ai (by omega),ab] at hv;rw [aK b,hv] at E;exact E.le W
theorem CU {d Y r:Nat}(hd:d<4294967296)(hr:r<32) :
  (d+4294967296*Y) / 2^r=(d+4294967296*(Y%4294967296)) / 2^r%4294967296+4294967296*(Y / 2^r):=by
 have e:4294967296=2^r*2^(32-r):=by rw [←Nat.pow_add,Nat.add_sub_cancel' (by omega)]
 have c:=Nat.two_pow_pos r;have l:=Nat.two_pow_pos (32-r);generalize ha:2^r=a at *;generalize hb:2^(32-r)=b at *
 have f:∀Z,(d+4294967296*Z) / a=d / a+b*Z:=by
  intro Z;rw [e,Nat.mul_assoc,Nat.add_mul_div_left _ _ c]
 rw [f,f]
 have g:d / a<b:=by
  rw [Nat.div_lt_iff_lt_mul c,Nat.mul_comm,←e];exact hd
 have h:b*(Y%4294967296)%4294967296=b*(Y%a):=by
  rw [e,Nat.mul_comm a b,Nat.mul_mod_mul_left,Nat.mod_mul_left_mod]
 have m:b*(Y%a)+b<=4294967296:=by
  have:Y%a+1<=a:=Nat.mod_lt _ c;have:=Nat.mul_le_mul_left b this;rw [Nat.mul_add,Nat.mul_one,Nat.mul_comm b a,←e] at this;exact this
 have i:(d / a+b*(Y%4294967296))%4294967296=d / a+b*(Y%a):=by
  rw [Nat.add_mod,h,Nat.mod_eq_of_lt (a:=d / a) (by omega),Nat.mod_eq_of_lt (by omega)]
 rw [i];have j:=Nat.mod_add_div Y a
 have k:b*Y=b*(Y%a)+4294967296*(Y / a):=by
  conv=>lhs;rw [←j]
  rw [Nat.mul_add,←Nat.mul_assoc,Nat.mul_comm b a,←e]
 rw [k];omega
theorem pO {xs:List Nat}(h:bM xs)(i:Nat):val (xs.drop i)%4294967296=(xs[i]?).getD 0:=by
 rcases Nat.lt_or_ge i xs.length with a|a
 ·rw [List.drop_eq_getElem_cons a,aY,List.getElem?_eq_getElem a,Option.getD_some,Nat.add_mul_mod_self_left,Nat.mod_eq_of_lt (h.get a)]
 ·rw [List.drop_of_length_le a,List.getElem?_eq_none a];rfl
theorem Gk {V:View}{p:OA}{n c:Nat}{ds:List Nat}(h:RD V p n c ds)(hm:ds.length<=1099511627776)(k:Nat)(hk:k<18446744073709551616) :
  Acts prog 240 #[.slice p n c,.int .u64 (k:Int)] V fun r V'=>∃p' n' c',r=.slice p' n' c'/\RN V' p' n' c' (val ds / 2^k):=by
 have S:=bo h.fu;refine ER p n c k V _ fun V1 T=>(aO (h.le T) (by omega)).mono ?_;rintro r V2 l2 ⟨n,rfl,A⟩;rw [aK h.fu] at A;generalize val ds=x at *;have hl:=A.len;have O:(k:Int).tdiv 32=((k / 32:Nat):Int):=by rw [Int.tdiv_eq_ediv_of_nonneg (by omega)];omega
 have B:(k:Int).tmod 32=((k%32:Nat):Int):=by rw [Int.tmod_eq_emod_of_nonneg (by omega)];omega
 refine ⟨_,_,_,rfl,?_⟩;rw [O,B]
 have o:x / 2^k=x / 4294967296^(k / 32) / 2^(k%32):=by
  rw [Nat.div_div_eq_div_mul,show (4294967296:Nat)=2^32 from rfl,←Nat.pow_mul,←Nat.pow_add,Nat.div_add_mod]
 rw [o];have U:k / 32<576460752303423488:=by omega
 generalize k / 32=w at *;have C:k%32<32:=Nat.mod_lt _ (by omega);generalize k%32=r at *;clear O B o;refine ⟨by omega,fun f V3 l3=>?_,fun f=>?_⟩
 ·have f:n<=w:=by
   rw [aH (by omega),aH (by omega)] at f;simp at f;omega
  have:x / 4294967296^w=0:=Nat.div_eq_of_lt (Nat.lt_of_lt_of_le (az.1 (Nat.le_refl _)) (Nat.pow_le_pow_right (by omega) (by omega)));rw [this,Nat.zero_div];exact ⟨_,_,_,rfl,RD.nil⟩
 ·have f:w<n:=by
   rw [aH (by omega),aH (by omega)] at f;simp at f;omega
  simp (disch:=omega) only [i64w,aH,cD];have E:((n:Int)-w).toNat=n-w:=by omega
  rw [E]
  have F:x / 4294967296^w=val ((af x).drop w):=by
   have e:val (af x)=val ((af x).take w++(af x).drop w):=by rw [List.take_append_drop]
   have q:=fW ((ax x).take w);rw [cY,ab] at e;rw [List.length_take,Nat.min_eq_left (by omega)] at e q
   have g:∀y,y=val ((af x).take w)+4294967296^w*val ((af x).drop w)->y / 4294967296^w=val ((af x).drop w):=by
    intro y W;rw [W,Nat.add_mul_div_left _ _ (Nat.pow_pos (by omega)),Nat.div_eq_of_lt q,Nat.zero_add]
   exact g x e
  rw [F]
  refine ⟨by omega,by omega,by omega,by omega,by omega,fun z V'=>0<=z.1/\z.1<=(n-w:Nat)/\∃es:List Nat,z.2=ay es/\es.length=n-w/\bM es /\
   val (es.take z.1.toNat)+4294967296^z.1.toNat*(val ((af x).drop (w+z.1.toNat)) / 2^r)=val ((af x).drop w) / 2^r,fun z=>(n-w)-z.1.toNat,
   ⟨(0,ay (List.replicate (n-w) 0)),by (try dsimp only);and_intros<;>trivial,by (try dsimp only);omega,by (try dsimp only);omega,_,rfl,by simp,bM.rep _,by simp⟩,?_⟩
  rintro ⟨i,vs⟩ V4 P ⟨s,G,es,rfl,H,j,hv⟩;dsimp only at s G hv ⊢;obtain ⟨i,rfl⟩:=Int.eq_ofNat_of_zero_le s;simp only [Int.toNat_natCast] at hv;refine ⟨by trivial,fun t=>?_,fun t=>?_⟩
  ·have t:i<n-w:=by simpa using t
   simp (disch:=omega) only [i64w];refine (A.le P).rd (w+i) (by omega) (by omega) ?_;have Q:=(ax x).get (i:=w+i) (by omega);have u:=CU (Y:=val ((af x).drop (w+i+1))) Q C;rw [pO (ax x)] at u
   have b:(min ((r:Nat):Int).toNat IntKind.u64.bits)=r:=by
    show min _ 64=r;omega
   have m:val ((af x).drop (w+i))=(af x)[w+i]+4294967296*val ((af x).drop (w+i+1)):=by
    rw [List.drop_eq_getElem_cons (by omega),aY]
   rw [m] at hv;rw [u] at hv
   have R:∀D:Nat,D=((af x)[w+i]+4294967296*((af x)[w+i+1]?).getD 0) / 2^r%4294967296 ->
     ∃a:List Nat,(ay es).set (0+i*1) (.int .u32 (D:Int))=ay a/\a.length=n-w/\bM a /\
     val (a.take (i+1))+4294967296^(i+1)*(val ((af x).drop (w+(i+1))) / 2^r)=val ((af x).drop w) / 2^r:=by
    intro D X;refine ⟨es.set i D,by rw [←bj];simp,by simpa using H,j.set _ _ (by omega),?_⟩;rw [aD _ _ _ (by omega),←hv,X,Nat.pow_succ,Nat.mul_add,Nat.add_assoc,Nat.mul_assoc,Nat.add_assoc w i 1]
   have v:((i:Int)+1).toNat=i+1:=by omega
   refine ⟨fun d=>?_,fun d=>?_⟩
   ·have d:w+i+1<n:=by simp at d;omega
    refine (A.le P).rd (w+i+1) (by omega) (by omega) ?_;have I:=(ax x).get (i:=w+i+1) (by omega)
    have J:bg .or .u64 (u64.wrap (((af x)[w+i]:Nat):Int)) (u64.wrap (u64.wrap (((af x)[w+i+1]:Nat):Int)*2^32))=(((af x)[w+i]+4294967296*((af x)[w+i+1]?).getD 0:Nat):Int):=by
     have B:((2:Int)^32)=4294967296:=by decide
     rw [B,aH (by omega),aH (x:=(((af x)[w+i+1]:Nat):Int)) (by omega),aH (by omega),Jh _ _ I Q,List.getElem?_eq_getElem (by omega),Option.getD_some];omega
    rw [J,b,fP,il];refine ⟨by omega,by omega,⟨by omega,by omega⟩,by simp;omega,?_⟩;obtain ⟨a,K,L,M,N⟩:=R _ rfl;refine ⟨((i:Int)+1,ay a),?_,?_,?_⟩
    ·(try dsimp only);omega
    ·(try dsimp only);and_intros<;>first|trivial|(rw [←K];simp)
    ·(try dsimp only)
     exact ⟨by omega,by omega,a,rfl,L,M,by rw [v];exact N⟩
   ·have d:n<=w+i+1:=by simp at d;omega
    have J:u64.wrap (((af x)[w+i]:Nat):Int)=(((af x)[w+i]+4294967296*((af x)[w+i+1]?).getD 0:Nat):Int):=by
     rw [aH (by omega),List.getElem?_eq_none (by omega)];simp
    rw [J,b,fP,il];refine ⟨by omega,⟨by omega,by omega⟩,by simp;omega,?_⟩;obtain ⟨a,K,L,M,N⟩:=R _ rfl;refine ⟨((i:Int)+1,ay a),?_,?_,?_⟩
    ·(try dsimp only);omega
    ·(try dsimp only);and_intros<;>first|trivial|(rw [←K];simp)
    ·(try dsimp only)
     exact ⟨by omega,by omega,a,rfl,L,M,by rw [v];exact N⟩
  ·have t:i=n-w:=by simp at t;omega
   intro V5 l5 bk Z;refine (aO (RD.aS Z j (n:=n-w) (c:=n-w) (by omega) (Nat.le_refl _)) (by omega)).mono ?_;rintro r' V6 l6 ⟨k',rfl,d⟩;refine ⟨_,_,_,rfl,fun _ V7 l7=>⟨_,_,_,rfl,?_⟩⟩;rw [ai (by omega),List.drop_of_length_le (l:=af x) (i:=w+i) (by omega)] at hv
   have hv:val es=val ((af x).drop w) / 2^r:=by
    rw [←hv,eh,Nat.zero_div,Nat.mul_zero,Nat.add_zero]
   rw [aK j,hv] at d;exact d.le l7
end Go.Proofs.Tryz
namespace Go.Big
theorem GA {v1 v2 v' u0 u1 u2 t' B W G ρ T Y:Nat}(hY:Y=(v1*W+v2)*B+v')(hT:T=((u0*W+u1)*W+u2)*B+t')(ht:t'<B)
  (hg:G*v1+ρ=u0*W+u1)(hd:ρ*W+u2<G*v2):T<G*Y:=by
 have a:(u0*W+u1)*W+u2+1<=G*(v1*W+v2):=by
  rw [←hg,Nat.mul_add,Nat.add_mul,←Nat.mul_assoc];omega
 have b:=Nat.mul_le_mul_right B a;have c:G*(v1*W+v2)*B<=G*Y:=by rw [hY,Nat.mul_assoc];exact Nat.mul_le_mul_left _ (Nat.le_add_right _ _)
 rw [Nat.add_mul,Nat.one_mul] at b;omega
theorem yM {v1 v2 v' u0 u1 u2 t' B W G ρ T Y:Nat}(hY:Y=(v1*W+v2)*B+v')(hT:T=((u0*W+u1)*W+u2)*B+t')(hv:v'<B)(hv1:1<=v1)(hW:0<W)
  (hg:G*v1+ρ=u0*W+u1)(hd:G*v2<=ρ*W+u2)(hG:G<=W):G*Y<T+Y:=by
 have a:G*(v1*W+v2)<=(u0*W+u1)*W+u2:=by
  rw [←hg,Nat.mul_add,Nat.add_mul,←Nat.mul_assoc];omega
 have d:=Nat.mul_le_mul_right B a;have e:G*v'<=W*v':=Nat.mul_le_mul_right _ hG;have f:W*v'<W*B:=Nat.mul_lt_mul_of_pos_left hv hW
 have g:W*B<=v1*W*B:=by
  have:=Nat.mul_le_mul_right (W*B) hv1;rw [Nat.one_mul,←Nat.mul_assoc] at this;exact this
 have b:(v1*W+v2)*B=v1*W*B+v2*B:=Nat.add_mul _ _ _;have c:G*Y=G*(v1*W+v2)*B+G*v':=by rw [hY,Nat.mul_add,Nat.mul_assoc]
 rw [c,hY,b];omega
theorem yN {v1 v2 v' u0 u1 u2 t' B W T Y:Nat}(hY:Y=(v1*W+v2)*B+v')(hT:T=((u0*W+u1)*W+u2)*B+t')(hv:v'<B)(h:T<W*Y):u0*W+u1<=v1*W+v2:=by
 rcases Nat.lt_or_ge (v1*W+v2) (u0*W+u1) with a|a
 ·exfalso;have b:(v1*W+v2+1)*W<=(u0*W+u1)*W:=Nat.mul_le_mul_right _ a;have c:=Nat.mul_le_mul_right B b
  have d:W*Y<=W*((v1*W+v2+1)*B):=by
   rw [hY,Nat.add_mul (v1*W+v2) 1 B,Nat.one_mul];exact Nat.mul_le_mul_left _ (by omega)
  have e:W*((v1*W+v2+1)*B)=(v1*W+v2+1)*W*B:=by grind
  have f:(u0*W+u1)*W*B<=T:=by rw [hT,Nat.add_mul ((u0*W+u1)*W) u2 B];omega
  omega
 ·exact a
theorem Iu {v1 v2 v' u0 u1 u2 t' B W G ρ T Y:Nat}(hY:Y=(v1*W+v2)*B+v')(hT:T=((u0*W+u1)*W+u2)*B+t')(ht:t'<B)(hu:u2<W)
  (hg:G*v1+ρ=u0*W+u1)(hr:ρ<v1):T<(G+1)*Y:=by
 have a:u0*W+u1+1<=(G+1)*v1:=by rw [Nat.add_mul,Nat.one_mul];omega
 have d:=Nat.mul_le_mul_right (W*B) a
 have e:(G+1)*v1*(W*B)<=(G+1)*Y:=by
  rw [hY,Nat.mul_assoc];refine Nat.mul_le_mul_left _ ?_;rw [←Nat.mul_assoc,Nat.add_mul];omega
 have f:((u0*W+u1)*W+u2)*B+t'<(u0*W+u1+1)*(W*B):=by
  have b:(u2+1)*B<=W*B:=Nat.mul_le_mul_right _ hu;rw [Nat.add_mul,Nat.one_mul] at b;have c:(u0*W+u1+1)*(W*B)=(u0*W+u1)*W*B+W*B:=by grind
  rw [c,Nat.add_mul ((u0*W+u1)*W) u2 B];omega
 omega
theorem zt {F U c b g d u Y W S:Nat}{x:Int}(h:F+W*(g*Y)=U+W*S*(c+b))(hc:c<4294967296)(hb:b<=1)(hu:u<4294967296)
  (hx:x=((u:Int)-((c+g*d)%4294967296:Nat)-b)%18446744073709551616) :
  0<=x/\0<=x / 9223372036854775808/\x / 9223372036854775808<=1 /\
  F+W*S*(x%4294967296).toNat+W*(g*(Y+S*d))=U+W*S*u+W*(S*4294967296)*((c+g*d) / 4294967296+(x / 9223372036854775808).toNat):=by
 have n:=Nat.mod_add_div (c+g*d) 4294967296;have hm:(c+g*d)%4294967296<4294967296:=Nat.mod_lt _ (by omega);generalize (c+g*d) / 4294967296=q at *;generalize (c+g*d)%4294967296=m at *
 have key:∃o B:Nat,(x%4294967296).toNat=o/\(x / 9223372036854775808).toNat=B/\u+4294967296*B=o+m+b/\0<=x/\0<=x / 9223372036854775808/\x / 9223372036854775808<=1:=by
  refine ⟨_,_,rfl,rfl,?_,by omega,by omega,by omega⟩;omega
 obtain ⟨o,B,a,e,p,f,i,j⟩:=key;refine ⟨f,i,j,?_⟩;rw [a,e];have k:u+4294967296*(B+q)=o+b+(c+g*d):=by omega
 have l:W*S*u+W*(S*4294967296)*(q+B)=W*S*(u+4294967296*(B+q)):=by grind
 rw [Nat.add_assoc U,l,k];grind
theorem yd {F U c d u Y W S t:Nat}(h:F+W*S*c=U+W*Y)(ht:t=c+u+d) :
  F+W*S*(t%4294967296)+W*(S*4294967296)*(t / 4294967296)=U+W*S*u+W*(Y+S*d):=by
 have a:W*S*(t%4294967296)+W*(S*4294967296)*(t / 4294967296)=W*S*t:=by
  have:=Nat.mod_add_div t 4294967296;have e:W*(S*4294967296)*(t / 4294967296)=W*S*(4294967296*(t / 4294967296)):=by grind
  rw [e,←Nat.mul_add,this]
 rw [Nat.add_assoc,a,ht];grind
end Go.Big
