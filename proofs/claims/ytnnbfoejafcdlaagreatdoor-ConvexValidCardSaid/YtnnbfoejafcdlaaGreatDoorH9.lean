import Derived.Test.YtnnbfoejafcdlaaGreatDoorH5
import Derived.Test.YtnnbfoejafcdlaaGreatDoorCards
import Derived.Test.YtnnbfoejafcdlaaGreatDoorTie
import Derived.WalkKit
import Derived.ProofKit
import Derived.OpenShut
import Derived.Deep.DeepHandedRow
import Derived.LaidLaws
import Derived.Lay
import Derived.Carry
import Derived.IntWalk
import Derived.Test.YtnnbfoejafcdlaaGreatDoorH6
set_option linter.unusedVariables false
open Go.IntKind (i64 u64 u32)
namespace Go.Proofs.YtnnbfoejafcdlaaGreatDoor
open Go.ChangeShapes Go.WideShapes Go.ChangeAt Go.RowKit Go.bE
theorem own:ownKnob Tryz.prog.godebug=none:=by kernel_rfl
theorem star : "*" ++ "errors.errorString" = "*errors.errorString" := by decide
theorem VE (u : TypeId)(h : Tryz.prog.typeName? 3 u = some "*errors.errorString") : u = 294 :=
 typeName_ptr_named (nm := "errors.errorString") (by rw [star]; kernel_rfl) (by kernel_rfl) (by decide) u (by rw [star]; exact h)
theorem Oc:Tryz.prog.cellsOf 319=1:=by kernel_rfl
theorem Od:Tryz.prog.cellsOf 9=1:=by kernel_rfl
theorem VD (g:Nat):MemPlace.cell g 0∈MemPlace.row ⟨g,0,none⟩ 1:=by simp [MemPlace.row]
theorem Nl {P:Program}{W:World}{name:String}{g:Nat}{v:Value}(hg:P.globalNamed name=some g)(h:W.var? P name=some #[v]):W.cell? ⟨g,0,none⟩=some v:=by simpa using World.var?_cell hg h 0
set_option maxRecDepth 100000 in
theorem lq {W:World}{l:List (String×DataW Unit)}{name:String}{text:List UInt8}{g:Nat}(hg:Tryz.prog.globalNamed name=some g)(hty:(Tryz.prog.globals[g]?).map (·.type)=some 47)
  (hm : (name, .iface "*errors.errorString" (.ptr (.agg [.lit (.string text)]))) ∈ l)(h : laidMet Tryz.prog l W) :
  ∃a,W.cell? ⟨g,0,none⟩=some (.iface 294 (.pointer (some a))):=by
 obtain ⟨ps,hv,-,hrows⟩:=h
 induction l generalizing ps with
 | nil=>cases hm
 | cons x r ih=>
  obtain ⟨n,d⟩:=x
  obtain ⟨g',t,cs,fuel,p,q,hg',CV,hvar,hd,hr,rfl⟩:=hv
  rcases List.mem_cons.1 hm with e|hm
  ·cases e
   obtain rfl:=Option.some.inj (hg.symm.trans hg')
   obtain rfl:=Option.some.inj (hty.symm.trans CV)
   obtain ⟨l0⟩:=cs
   have ok0:∀u v,l0=[.iface u v]->Value.okWide Tryz.prog W .any 0 u v:=fun u v e=>by
    subst e
    exact (hrows g 0 (List.mem_append_left _ (List.mem_append_left _ (VD g)))).2 u v (Nl hg hvar)
   obtain ⟨a,s,rfl,-⟩:=errorString_of_trod Tryz.underlying47 VE Tryz.underlying294 Tryz.underlying319 rfl rfl Tryz.underlying9 Oc Od hd ok0
   exact ⟨a,Nl hg hvar⟩
  ·exact ih hm q hr fun b off hb=>hrows b off (List.mem_append_right _ hb)
def View.all (W:World):View:=⟨W,fun _=>False,fun _=>False,fun _ h=>h.elim,fun _ h=>h⟩
theorem C8 {w w':World}(h:eM (fun _=>False) w w')(may:MemPlace->Prop):w.keptBut w' may:=by
 refine ⟨h.os,h.out,fun i hi=>?_⟩
 rw [h.bG i hi (fun h=>h)]
 cases w.heap[i]? with
 | none=>rfl
 | some o=>cases o<;>simp
theorem xL {f:FuncId}{args:Array Value}{W:World}{R:Value->Prop}(h:ab Tryz.prog f args (View.all W) fun r _=>R r):Calls Tryz.prog f args W fun e w'=>∃r,e=.returned r/\R r/\eM (fun _=>False) W w':=
 h.2.mono fun e w' ⟨r,he,hx,hr⟩=>⟨r,he,hr,hx⟩
theorem laidOut:laidOutB Tryz.prog=true:=by kernel_rfl
theorem Av {w w':World}(h:eM (fun _=>False) w w'):Below w.heap.size w w':=⟨h.os,h.tape,h.out,h.size,fun k hk=>h.bG k hk (fun h=>h)⟩
theorem Ht {P:Program}(hlo:laidOutB P=true){H:Type}{enc:TypeId×Value->H}{W W':World}(hb:Below W.heap.size W W')(ts:List TypeId):∀{vs:List Value} {ds:List (DataW H)} {ps:List MemPlace},
  (ts.all fun t=>P.readableRec t&&decide (t<P.types.size))=true->DataW.TrodAll enc P W 0 (fun _=>true) true ts vs ds ps->(∀x∈ps,x.block<W.heap.size) ->
   DataW.TrodAll enc P W' 0 (fun b=>decide (b<W.heap.size)) true ts vs ds ps:=by
 induction ts with
 | nil=>
  intro vs ds ps _ h _
  obtain ⟨rfl,rfl,rfl⟩:=trodAll_nil h
  exact trodAll_mk0
 | cons t ts ih=>
  intro vs ds ps ht h hlt
  obtain ⟨v,vs',d,ds',p,q,rfl,rfl,rfl,h1,h2⟩:=trodAll_cons h
  simp only [List.all_cons,Bool.and_eq_true,decide_eq_true_eq] at ht
  exact trodAll_cons_mk (Below.trod hlo ht.1.1 ht.1.2 h1 hb fun x hx=>hlt x (List.mem_append_left _ hx)) (ih ht.2 h2 fun x hx=>hlt x (List.mem_append_right _ hx))
set_option maxRecDepth 100000 in
theorem Mj {H:Type}{enc:TypeId×Value->H}{W7:FuncId}{f:Func}{s:ChangeSpec}{W:World}{args:Array Value}{ds gs:List (DataW H)}{before:List MemPlace}{fresh handsOn:Bool}
  (hW:DataW.Whole enc Tryz.prog f.params.toList s.vars false W args.toList ds gs before)(hvars:s.vars=[])(hts:(f.params.toList.all fun t=>Tryz.prog.readableRec t&&decide (t<Tryz.prog.types.size))=true)
  (hres:f.resultTypes=#[4])(hs:s.fn H (ds++gs)={ results:=[.lit (.bool true)],args:=ds })
  (h:ab Tryz.prog W7 args (View.all W) fun r _=>r=.bool true):Calls Tryz.prog W7 args W fun e W'=>∃v,e=.returned v/\s.post enc Tryz.prog f false fresh handsOn false W args v W':=by
 refine (xL h).mono fun e W' ⟨r,he,hr,hx⟩=>?_
 subst he hr
 have hW':=hW
 obtain ⟨p,q,hA,hV,rfl,-,-⟩:=hW
 rw [hvars] at hV
 obtain ⟨rfl,rfl⟩:=trodVars_none hV
 have hlt:∀x∈p++[],x.block<W.heap.size:=fun x hx=>hW'.lt x hx
 refine ⟨_,rfl,ds,_,p++[],[],p++[],[],hW',?_,?_,?_,C8 hx _,fun h=>nomatch h⟩
 ·rw [hs,hres]
  exact trodAll_cons_mk (shut_bool Tryz.underlying4 _) trodAll_mk0
 ·rw [hs,List.append_nil]
  exact Ht laidOut (Av hx) _ hts hA fun x hx=>hlt x (by rw [List.append_nil];exact hx)
 ·rw [hs,hvars]
  rfl
end Go.Proofs.YtnnbfoejafcdlaaGreatDoor
namespace Go.dP
def val:List Nat->Nat
 | []=>0
 | d::r=>d+4294967296*val r
def bN (ds:List Nat):Prop:=∀d∈ds,d<4294967296
def bY:List Nat->List Nat
 | []=>[]
 | d::r=>if bY r=[]/\d=0 then [] else d::bY r
def rI (ds:List Nat):Prop:=bY ds=ds
def uZ:Nat->Nat->List Nat
 | 0,_=>[]
 | f+1,n=>if n=0 then [] else n%4294967296::uZ f (n / 4294967296)
def ag (n:Nat):List Nat:=uZ n n
@[simp] theorem eF:val []=0:=rfl
@[simp] theorem bq (d:Nat)(r:List Nat):val (d::r)=d+4294967296*val r:=rfl
theorem bN.nil:bN []:=fun _ h=>nomatch h
theorem bN.cons {d:Nat}{r:List Nat}:bN (d::r)↔d<4294967296/\bN r:=by simp [bN]
theorem bN.append {a b:List Nat}:bN (a++b)↔bN a/\bN b:=by simp [bN,or_imp,forall_and]
theorem bN.take {a:List Nat}(h:bN a)(k:Nat):bN (a.take k):=fun d hd=>h d (List.mem_of_mem_take hd)
theorem bN.drop {a:List Nat}(h:bN a)(k:Nat):bN (a.drop k):=fun d hd=>h d (List.mem_of_mem_drop hd)
theorem bN.set {a:List Nat}(h:bN a)(k x:Nat)(hx:x<4294967296):bN (a.set k x):=fun d hd=>by
 rcases List.mem_or_eq_of_mem_set hd with h'|h'
 ·exact h d h'
 ·exact h'▸hx
theorem bN.get {a:List Nat}(h:bN a){i:Nat}(hi:i<a.length):a[i]<4294967296:=h _ (List.getElem_mem hi)
theorem bN.rep (n:Nat):bN (List.replicate n 0):=fun d hd=>by rw [List.eq_of_mem_replicate hd];omega
theorem dD (a b:List Nat):val (a++b)=val a+4294967296^a.length*val b:=by
 induction a with
 | nil=>simp
 | cons d r ih=>simp only [List.cons_append,bq,ih,List.length_cons,Nat.pow_succ];grind
theorem eL {ds:List Nat}(h:bN ds):val ds<4294967296^ds.length:=by
 induction ds with
 | nil=>simp
 | cons d r ih=>
  have h':=bN.cons.1 h
  have:=ih h'.2
  have h1:=h'.1
  simp only [bq,List.length_cons,Nat.pow_succ]
  have h2:val r+1<=4294967296^r.length:=this
  have h3:=Nat.mul_le_mul_left 4294967296 h2
  omega
theorem uf (n:Nat):val (List.replicate n 0)=0:=by
 induction n with
 | zero=>rfl
 | succ n ih=>simp [List.replicate_succ,ih]
theorem aw (ds:List Nat)(i:Nat)(h:i<ds.length):val (ds.take (i+1))=val (ds.take i)+4294967296^i*ds[i]:=by
 rw [List.take_succ_eq_append_getElem h,dD]
 simp [List.length_take,Nat.min_eq_left (Nat.le_of_lt h)]
theorem ao {ds:List Nat}{i:Nat}(h:ds.length<=i):val (ds.take i)=val ds:=by rw [List.take_of_length_le h]
theorem xZ (ds:List Nat)(i x:Nat)(h:i<ds.length):(ds.set i x).take (i+1)=ds.take i++[x]:=by
 rw [List.take_succ_eq_append_getElem (by simpa using h),List.take_set,List.set_eq_of_length_le (by simp;omega)]
 simp
theorem aK (ds:List Nat)(i x:Nat)(h:i<ds.length):val ((ds.set i x).take (i+1))=val (ds.take i)+4294967296^i*x:=by
 rw [xZ ds i x h,dD]
 simp [List.length_take,Nat.min_eq_left (Nat.le_of_lt h)]
theorem ie (r:List Nat):bY (r++[0])=bY r:=by
 induction r with
 | nil=>simp [bY]
 | cons d r ih=>simp only [List.cons_append,bY,ih]
theorem oF (r:List Nat)(d:Nat)(h:d≠0):bY (r++[d])=r++[d]:=by
 induction r with
 | nil=>simp [bY,h]
 | cons x r ih=>simp [List.cons_append,bY,ih]
theorem IB (ds:List Nat):val (bY ds)=val ds:=by
 induction ds with
 | nil=>rfl
 | cons d r ih=>
  simp only [bY]
  split
  ·rename_i h
   rw [bq,←ih,h.1,h.2];rfl
  ·simp [ih]
theorem kx (ds:List Nat):(bY ds).length<=ds.length:=by
 induction ds with
 | nil=>simp [bY]
 | cons d r ih=>simp only [bY];split<;>simp<;>omega
theorem Iz (ds:List Nat):bY ds=ds.take (bY ds).length:=by
 induction ds with
 | nil=>rfl
 | cons d r ih=>
  simp only [bY]
  split
  ·rfl
  ·simp only [List.length_cons,List.take_succ_cons];rw [←ih]
theorem bN.trim {ds:List Nat}(h:bN ds):bN (bY ds):=by rw [Iz];exact h.take _
theorem DS (ds:List Nat):rI (bY ds):=by
 unfold rI
 induction ds with
 | nil=>rfl
 | cons d r ih=>
  rw [bY]
  split
  ·rfl
  ·rename_i h;rw [bY,ih,if_neg h]
theorem rI.tail {d:Nat}{r:List Nat}(h:rI (d::r)):rI r:=by
 unfold rI at h ⊢
 simp only [bY] at h
 split at h
 ·cases h
 ·injection h
theorem rI.zero {ds:List Nat}(h:rI ds)(hv:val ds=0):ds=[]:=by
 induction ds with
 | nil=>rfl
 | cons d r ih=>
  have hr:=ih h.tail (by simp at hv;omega)
  subst hr
  simp at hv;subst hv
  simp [rI,bY] at h
theorem pe:∀(f n:Nat),n<=f->val (uZ f n)=n/\bN (uZ f n)/\rI (uZ f n)
 | 0,n,h=>⟨by simp [uZ];omega,bN.nil,rfl⟩
 | f+1,n,h=>by
  simp only [uZ]
  split
  ·subst_vars;exact ⟨rfl,bN.nil,rfl⟩
  ·obtain ⟨h1,h2,h3⟩:=pe f (n / 4294967296) (by omega)
   refine ⟨by rw [bq,h1];omega,bN.cons.2 ⟨by omega,h2⟩,?_⟩
   unfold rI at h3 ⊢
   rw [bY,h3,if_neg]
   rintro ⟨e1,e2⟩
   rw [e1] at h1
   simp at h1
   omega
theorem ae (n:Nat):val (ag n)=n:=(pe n n (Nat.le_refl _)).1
theorem aH (n:Nat):bN (ag n):=(pe n n (Nat.le_refl _)).2.1
theorem gZ (n:Nat):rI (ag n):=(pe n n (Nat.le_refl _)).2.2
theorem rI.ext:∀{a b:List Nat},bN a->bN b->rI a->rI b->val a=val b->a=b
 | [],b,_,_,_,hb,h=>(hb.zero (by rw [←h];rfl)).symm
 | d::r,[],_,_,ha,_,h=>by have:=ha.zero h;cases this
 | d::r,e::s,ha,hb,na,nb,h=>by
  have h1:=(bN.cons.1 ha).1
  have h2:=(bN.cons.1 hb).1
  simp only [bq] at h
  have:val r=val s:=by omega
  have hrs:=rI.ext (bN.cons.1 ha).2 (bN.cons.1 hb).2 na.tail nb.tail this
  have:d=e:=by omega
  subst this;rw [hrs]
theorem pj {ds:List Nat}(h:bN ds)(hn:rI ds):ag (val ds)=ds:=rI.ext (aH _) h (gZ _) hn (ae _)
theorem aN {ds:List Nat}(h:bN ds):bY ds=ag (val ds):=by
 rw [←IB,pj h.trim (DS _)]
theorem pf {a b:Nat}(h:ag a=ag b):a=b:=by rw [←ae a,h,ae]
@[simp] theorem zH:ag 0=[]:=rfl
theorem bg {n:Nat}:ag n=[]↔n=0:=⟨fun h=>pf (by rw [h];rfl),fun h=>h▸rfl⟩
theorem rI.last {ds:List Nat}(h:rI ds)(hl:0<ds.length):ds[ds.length-1]≠0:=by
 intro e
 have hs:ds=ds.take (ds.length-1)++[ds[ds.length-1]]:=by
  rw [←List.take_succ_eq_append_getElem (by omega),Nat.sub_add_cancel hl,List.take_length]
 rw [e] at hs
 have h2:bY ds=ds:=h
 rw [hs,ie] at h2
 have:=kx (ds.take (ds.length-1))
 rw [h2] at this
 simp at this
 omega
theorem sr {ds:List Nat}(h:∀hl:0<ds.length,ds[ds.length-1]≠0):rI ds:=by
 rcases Nat.eq_zero_or_pos ds.length with e|e
 ·rw [List.length_eq_zero_iff.1 e];rfl
 ·have hs:ds=ds.take (ds.length-1)++[ds[ds.length-1]]:=by
   rw [←List.take_succ_eq_append_getElem (by omega),Nat.sub_add_cancel e,List.take_length]
  have:=oF (ds.take (ds.length-1)) _ (h e)
  rw [←hs] at this
  exact this
theorem KY {ds:List Nat}(h:rI ds)(hl:0<ds.length):4294967296^(ds.length-1)<=val ds:=by
 have hs:ds=ds.take (ds.length-1)++[ds[ds.length-1]]:=by
  rw [←List.take_succ_eq_append_getElem (by omega),Nat.sub_add_cancel hl,List.take_length]
 have h0:=h.last hl
 rw [hs,dD]
 simp only [bq,eF,List.length_take]
 rw [Nat.min_eq_left (by omega)]
 simp only [List.length_append,List.length_take,List.length_singleton]
 rw [Nat.min_eq_left (by omega),Nat.sub_add_cancel hl]
 have:4294967296^(ds.length-1)*1<=4294967296^(ds.length-1)*(ds[ds.length-1]+4294967296*0):=Nat.mul_le_mul_left _ (by omega)
 omega
theorem aI {n k:Nat}:(ag n).length<=k↔n<4294967296^k:=by
 constructor
 ·intro h
  have:=eL (aH n)
  rw [ae] at this
  exact Nat.lt_of_lt_of_le this (Nat.pow_le_pow_right (by omega) h)
 ·intro h
  rcases Nat.lt_or_ge k (ag n).length with h'|h'
  ·have:=KY (gZ n) (by omega)
   rw [ae] at this
   have h2:4294967296^k<=4294967296^((ag n).length-1):=Nat.pow_le_pow_right (by omega) (by omega)
   omega
  ·exact h'
theorem rU {n k:Nat}:k<(ag n).length↔4294967296^k<=n:=by
 have:=@aI n k
 omega
theorem gJ (ds:List Nat)(i:Nat)(h:i<ds.length):val ds=val (ds.take i)+4294967296^i*(ds[i]+4294967296*val (ds.drop (i+1))):=by
 have h2:val ds=val (ds.take i++ds.drop i):=by rw [List.take_append_drop]
 rw [h2,dD,List.drop_eq_getElem_cons h]
 simp only [List.length_take,Nat.min_eq_left (Nat.le_of_lt h),bq]
theorem jy {a b:List Nat}{i:Nat}(ha:bN a)(hi:i<a.length)(hj:i<b.length)(hd:a.drop (i+1)=b.drop (i+1))(hl:a[i]<b[i]):val a<val b:=by
 rw [gJ a i hi,gJ b i hj,hd]
 have h1:=eL (ha.take i)
 simp only [List.length_take,Nat.min_eq_left (Nat.le_of_lt hi)] at h1
 have h2:4294967296^i*(a[i]+4294967296*val (b.drop (i+1))+1)<=4294967296^i*(b[i]+4294967296*val (b.drop (i+1))):=Nat.mul_le_mul_left _ (by omega)
 rw [Nat.mul_add,Nat.mul_one] at h2
 omega
theorem km {a b:Nat}(h:(ag a).length<(ag b).length):a<b:=by
 have h1:=eL (aH a)
 have h2:=KY (gZ b) (by omega)
 rw [ae] at h1 h2
 have h3:4294967296^(ag a).length<=4294967296^((ag b).length-1):=Nat.pow_le_pow_right (by omega) (by omega)
 omega
def jK (a b:Nat):Int:=if a<b then -1 else if b<a then 1 else 0
theorem aD {a b:Nat}(h:a<=b):(ag a).length<=(ag b).length:=by
 rcases Nat.lt_or_ge (ag b).length (ag a).length with h'|h'
 ·have:=km h';omega
 ·exact h'
theorem bh {ds:List Nat}(h:bN ds):(ag (val ds)).length<=ds.length:=by rw [←aN h];exact kx ds
theorem LK {n:Nat}(h:n<4294967296)(h0:n≠0):ag n=[n]:=by
 have:rI [n]:=by simp [rI,bY,h0]
 have:=pj (by simp [bN];exact h) this
 simpa using this
end Go.dP
namespace Go.bE
open Go.dP
theorem aB {x:Int}(h:-9223372036854775808<=x/\x<=9223372036854775807):i64.wrap x=x:=IntWalk.i64_in x h
theorem aO {x:Int}(h:0<=x/\x<=18446744073709551615):u64.wrap x=x:=IntWalk.u64_in x h
theorem qf {x:Int}(h:0<=x/\x<=4294967295):u32.wrap x=x:=IntWalk.u32_in x h
theorem iB (x:Int):u32.wrap x=x%4294967296:=by rw [IntKind.wrap_u32]
theorem rm (x:Int):u64.wrap x=x%18446744073709551616:=by rw [IntKind.wrap_u64]
theorem lF {x:Int}:x.fdiv (2^32)=x / 4294967296:=by rw [Int.fdiv_eq_ediv_of_nonneg _ (by decide)];rfl
theorem KM {x:Int}:x.fdiv (2^63)=x / 9223372036854775808:=by rw [Int.fdiv_eq_ediv_of_nonneg _ (by decide)];rfl
theorem Dr (a b:Nat)(ha:a<4294967296)(hb:b<4294967296):bz .or .u64 ((a:Int)*4294967296) (b:Int)=(a:Int)*4294967296+b:=by
 have h1:((a:Int)*4294967296)=((a*2^32:Nat):Int):=by simp
 rw [bz,h1,rm]
 have h2:(BitVec.ofInt IntKind.u64.bits ((a*2^32:Nat):Int) ||| BitVec.ofInt IntKind.u64.bits (b:Int)).toNat=a*2^32+b:=by
  show (BitVec.ofInt 64 ((a*2^32:Nat):Int) ||| BitVec.ofInt 64 (b:Int)).toNat=_
  rw [BitVec.ofInt_natCast,BitVec.ofInt_natCast,BitVec.toNat_or,BitVec.toNat_ofNat,BitVec.toNat_ofNat,Nat.mod_eq_of_lt (by omega),Nat.mod_eq_of_lt (by omega)]
  have:=Nat.shiftLeft_add_eq_or_of_lt (b:=b) (i:=32) (by omega) a
  rw [Nat.shiftLeft_eq] at this
  exact this.symm
 rw [h2]
 omega
def aG (ds:List Nat):List Value:=ds.map fun (d:Nat)=>Value.int .u32 (d:Int)
@[simp] theorem Sf (ds:List Nat):(aG ds).length=ds.length:=by simp [aG]
theorem bA (ds:List Nat)(i x:Nat):(aG ds).set i (.int .u32 (x:Int))=aG (ds.set i x):=by simp [aG,List.map_set]
theorem cN (n:Nat):List.replicate n (Value.int .u32 0)=aG (List.replicate n 0):=by simp [aG]
theorem fU {ds:List Nat}{i:Nat}(h:i<ds.length):(aG ds)[i]?=some (.int .u32 (ds[i]:Int)):=by simp [aG,h]
theorem An (ds:List Nat)(k:Nat):aG (ds.take k)=(aG ds).take k:=by simp [aG,List.map_take]
theorem IA (ds:List Nat)(k:Nat):aG (ds.drop k)=(aG ds).drop k:=by simp [aG,List.map_drop]
theorem sG (a b:List Nat):aG (a++b)=aG a++aG b:=by simp [aG]
theorem View.Le.sl {V V':View}(h:V.Le V'){a:OA}{xs:List Value}(hs:V.sl a xs):V'.sl a xs:=
 fun i v hv=>let ⟨ad,e,ha⟩:=hs i v hv;⟨ad,e,h.at ha⟩
structure RD (V:View) (p:OA) (n c:Nat) (ds:List Nat):Prop where
 len:n=ds.length
 cap:n<=c
 sl:V.sl p (aG ds)
 cZ:bN ds
 J_:p.isNone=true->c=0
theorem RD.le {V V':View}{p:OA}{n c:Nat}{ds:List Nat}(h:RD V p n c ds)(l:V.Le V'):RD V' p n c ds:=⟨h.len,h.cap,l.sl h.sl,h.cZ,h.J_⟩
theorem RD.nil {V:View}:RD V none 0 0 []:=⟨rfl,Nat.le_refl _,fun i v h=>by simp [aG] at h,bN.nil,fun _=>rfl⟩
theorem RD.take {V:View}{p:OA}{n c:Nat}{ds:List Nat}(h:RD V p n c ds){k:Nat}(hk:k<=n):RD V p k c (ds.take k):=by
 have:=h.len
 refine ⟨by simp;omega,by have:=h.cap;omega,fun i v hv=>h.sl i v ?_,h.cZ.take k,h.J_⟩
 rw [An] at hv
 rw [List.getElem?_take] at hv
 split at hv
 ·exact hv
 ·cases hv
theorem RD.rd {V:View}{p:OA}{n c:Nat}{ds:List Nat}(h:RD V p n c ds){i:Int}{K:Int->Prop}(j:Nat)(hj:i=j)(hn:j<ds.length)
  (hK:K ((ds[j]:Nat):Int)):(p.isSome=true)/\(0<=i/\i<(n:Int))/\∃x:Int,(∃a,ah p (i.toNat*1)=some a/\V.at a (.int .u32 x))/\K x:=by
 obtain ⟨ad,e,ha⟩:=h.sl j _ (fU hn)
 have:=h.len
 subst hj
 refine ⟨by rw [e];rfl,⟨by omega,by omega⟩,_,⟨ad.add j,?_,ha⟩,hK⟩
 rw [e];simp [ah]
theorem eH {V:View}{b:Nat}{xs:List Value}{ty:TypeId}{m:Nat×Nat}(h:V.bG b (.cells xs.toArray ty m)){i:Nat}{v:Value}(hv:xs[i]?=some v):V.at ⟨b,i,none⟩ v:=by
 refine ⟨h.1,?_⟩
 unfold World.cell?
 rw [h.2]
 simpa using hv
theorem add_zero' (b i:Nat):(⟨b,0,none⟩:Addr).add i=⟨b,i,none⟩:=by
 unfold Addr.add
 split
 ·rename_i h;simp_all
 ·simp
theorem RD.bG {V:View}{b:Nat}{ds:List Nat}{ty:TypeId}{m:Nat×Nat}(h:V.bG b (.cells (aG ds).toArray ty m))(hd:bN ds){n c:Nat}(hn:n=ds.length)(hc:n<=c):RD V (some ⟨b,0,none⟩) n c ds:=
 ⟨hn,hc,fun i v hv=>⟨_,rfl,by rw [add_zero'];exact eH h hv⟩,hd,fun e=>nomatch e⟩
end Go.bE
namespace Go.bE
theorem I1 (a:Addr)(m n:Nat):(a.add m).add n=a.add (m+n):=by
 unfold Addr.add
 by_cases h1:m=0
 ·subst h1;simp
 ·by_cases h2:n=0
  ·subst h2;simp [h1]
  ·rw [if_neg h1,if_neg h2,if_neg (by omega)]
   simp only [Nat.add_assoc]
variable {α:Type} {sz:Nat} {R:View->Value->α->Prop} {V V':View}
structure Row (sz:Nat) (R:View->Value->α->Prop) (V:View) (vs:List Value) (al:List α):Prop where
 at_:∀(i:Nat)(h:i<al.length),∃xs:List Value,xs.length=sz/\R V (.agg xs.toArray) al[i]/\∀j x,xs[j]?=some x->vs[i*sz+j]?=some x
structure cB (sz:Nat) (R:View->Value->α->Prop) (V:View) (p:OA) (n:Nat) (al:List α):Prop where
 len:n=al.length
 at_:∀(i:Nat)(h:i<al.length),∃ad,ah p (i*sz)=some ad/\∃xs:List Value,xs.length=sz/\R V (.agg xs.toArray) al[i]/\∀j x,xs[j]?=some x->V.at (ad.add j) x
theorem Row.nil {vs:List Value}:Row sz R V vs []:=⟨fun i h=>absurd h (Nat.not_lt_zero i)⟩
theorem cB.nil {p:OA}:cB sz R V p 0 []:=⟨rfl,fun i h=>absurd h (Nat.not_lt_zero i)⟩
theorem Row.le {vs:List Value}{al:List α}(h:Row sz R V vs al)(m:∀v a,R V v a->R V' v a):Row sz R V' vs al:=
 ⟨fun i hi=>by obtain ⟨xs,h1,h2,h3⟩:=h.at_ i hi;exact ⟨xs,h1,m _ _ h2,h3⟩⟩
theorem cB.le {p:OA}{n:Nat}{al:List α}(h:cB sz R V p n al)(l:V.Le V')(m:∀v a,R V v a->R V' v a):cB sz R V' p n al:=
 ⟨h.len,fun i hi=>by obtain ⟨ad,h0,xs,h1,h2,h3⟩:=h.at_ i hi;exact ⟨ad,h0,xs,h1,m _ _ h2,fun j x hx=>l.at (h3 j x hx)⟩⟩
theorem Row.kW {vs:List Value}{al:List α}(h:Row sz R V vs al)(hs:0<sz):al.length*sz<=vs.length:=by
 by_cases h0:al.length=0
 ·rw [h0];omega
 ·obtain ⟨xs,h1,-,h3⟩:=h.at_ (al.length-1) (by omega)
  have hx:sz-1<xs.length:=by omega
  have:=(List.getElem?_eq_some_iff.1 (h3 (sz-1) _ (List.getElem?_eq_getElem hx))).1
  have e:al.length*sz=(al.length-1)*sz+sz:=by
   obtain ⟨m,hm⟩:∃m,al.length=m+1:=⟨al.length-1,by omega⟩
   rw [hm,Nat.add_sub_cancel,Nat.succ_mul]
  omega
theorem Row.snoc {vs:List Value}{al:List α}(h:Row sz R V vs al){xs sp:List Value}{a:α}(hx:xs.length=sz)(ha:R V (.agg xs.toArray) a)(hs:0<sz) :
  Row sz R V (vs.take (al.length*sz)++xs++sp) (al++[a]):=by
 have hl:=h.kW hs
 have ht:(vs.take (al.length*sz)).length=al.length*sz:=by rw [List.length_take];omega
 refine ⟨fun i hi=>?_⟩
 rw [List.length_append,List.length_singleton] at hi
 by_cases e:i=al.length
 ·subst e
  refine ⟨xs,hx,by rw [List.getElem_append_right (Nat.le_refl _)];simpa using ha,fun j x hj=>?_⟩
  have hj':=(List.getElem?_eq_some_iff.1 hj).1
  rw [List.append_assoc,List.getElem?_append_right (by rw [ht];omega),ht,Nat.add_sub_cancel_left,List.getElem?_append_left hj']
  exact hj
 ·have hi':i<al.length:=by omega
  obtain ⟨ys,y1,y2,y3⟩:=h.at_ i hi'
  refine ⟨ys,y1,by rw [List.getElem_append_left hi'];exact y2,fun j x hj=>?_⟩
  have hj':=(List.getElem?_eq_some_iff.1 hj).1
  have hlt:i*sz+j<al.length*sz:=by
   have:(i+1)*sz<=al.length*sz:=Nat.mul_le_mul_right _ hi'
   rw [Nat.succ_mul] at this
   omega
  rw [List.append_assoc,List.getElem?_append_left (by rw [ht];exact hlt),List.getElem?_take,if_pos hlt]
  exact y3 j x hj
theorem cB.Kf {bk:Nat}{ty:TypeId}{m:Nat×Nat}{vs:List Value}{al:List α}(hb:V.bG bk (.cells vs.toArray ty m))(h:Row sz R V vs al):cB sz R V (some ⟨bk,0,none⟩) al.length al:=by
 refine ⟨rfl,fun i hi=>?_⟩
 obtain ⟨xs,h1,h2,h3⟩:=h.at_ i hi
 refine ⟨⟨bk,i*sz,none⟩,by simp [ah,add_zero'],xs,h1,h2,fun j x hj=>?_⟩
 have e:(⟨bk,i*sz,none⟩:Addr).add j=⟨bk,i*sz+j,none⟩:=by rw [←add_zero',I1,add_zero']
 rw [e]
 exact eH hb (h3 j x hj)
theorem cB.iz {bk c:Nat}{ty:TypeId}{m:Nat×Nat}{vs:List Value}{al:List α}(hb:vs≠[]->V.bG bk (.cells vs.toArray ty m))(h:Row sz R V vs al)(hs:0<sz)(hc:al.length<=c):cB sz R V (mA bk c) al.length al:=by
 cases al with
 | nil=>exact cB.nil
 | cons a r=>
  have hne:vs≠[]:=fun e=>by
   have:=h.kW hs
   rw [e,List.length_cons,Nat.succ_mul] at this
   simp at this;omega
  have:mA bk c=some ⟨bk,0,none⟩:=by unfold mA;rw [if_neg];rw [List.length_cons] at hc;omega
  rw [this]
  exact cB.Kf (hb hne) h
end Go.bE
namespace Go.Proofs.Tryz
open Go.bE Go.dP
theorem aV {V:View}{p:OA}{n c:Nat}{ds:List Nat}(h:RD V p n c ds)(hm:ds.length<=4611686018427387904) :
  ab prog 218 #[.slice p n c] V fun r V'=>∃k,r=.slice p k c/\RD V' p k c (bY ds):=by
 refine D9 p n c V _ ?_
 refine ⟨fun z V'=>z.1=p/\z.2.2=c/\z.2.1<=ds.length/\bY (ds.take z.2.1)=bY ds/\RD V' p z.2.1 c (ds.take z.2.1),fun z=>z.2.1,⟨(p,n,c),⟨rfl,rfl,rfl⟩,rfl,rfl,?_⟩,?_⟩
 ·have:=h.len;subst this;simp;exact h
 ·rintro ⟨q,k,c'⟩ V1 l1 ⟨rfl,rfl,hk,ht,hR⟩
  dsimp only at hk ht hR ⊢
  refine ⟨rfl,fun h0=>?_,fun h0=>?_⟩
  ·have h0:0<k:=by simpa using h0
   simp (disch:=omega) only [aB]
   have hl:(ds.take k).length=k:=by simp;omega
   have hs:ds.take k=ds.take (k-1)++[ds[k-1]]:=by rw [←List.take_succ_eq_append_getElem (by omega),Nat.sub_add_cancel h0]
   refine hR.rd (k-1) (by omega) (by omega) ⟨fun hz=>?_,fun hz=>?_⟩
   ·have hz:ds[k-1]=0:=by simpa using hz
    refine ⟨⟨by omega,by have:=hR.cap;omega⟩,(q,k-1,c'),by dsimp only;omega,⟨rfl,by dsimp only;omega,rfl⟩,rfl,rfl,by dsimp only;omega,?_,?_⟩
    ·dsimp only
     rw [←ht,hs,hz,ie]
    ·have:=hR.take (k:=k-1) (by omega)
     dsimp only
     rwa [List.take_take,Nat.min_eq_left (by omega)] at this
   ·have hz:ds[k-1]≠0:=by simpa using hz
    refine fun V2 l2=>⟨k,rfl,?_⟩
    rw [←ht,hs,oF _ _ hz,←hs]
    exact hR.le l2
  ·have h0:k=0:=by simpa using h0
   subst h0
   refine fun V2 l2=>⟨0,rfl,?_⟩
   rw [←ht]
   exact hR.le l2
theorem ma {V:View}{p:OA}{n c:Nat}{ds:List Nat}(h:RD V p n c ds)(hm:ds.length<=1099511627776) :
  ab prog 217 #[.slice p n c] V fun r V'=>∃q k c',r=.slice q k c'/\RD V' q k c' ds:=by
 have hl:=h.len
 refine tM p n c V _ ⟨fun h0 V1 l1=>⟨_,_,_,rfl,?_⟩,fun h0=>⟨aG ds,h.sl,by simp [hl],by omega,by omega,by simp,by simp [hl],?_,?_⟩⟩
 ·have h0:p=none:=by simpa using h0
  subst h0
  have:ds=[]:=by
   rcases Nat.eq_zero_or_pos ds.length with e|e
   ·exact List.length_eq_zero_iff.1 e
   ·obtain ⟨ad,e,-⟩:=h.sl 0 _ (fU e)
    cases e
  subst this;exact RD.nil
 ·intro v hv
  simp only [aG,List.mem_map] at hv
  obtain ⟨d,-,rfl⟩:=hv
  rfl
 ·intro bk J sp c' h1 h2 V1 l1 b hb
  refine ⟨_,_,_,rfl,?_⟩
  simp only [Nat.zero_add,Nat.zero_mul,List.take_zero,List.nil_append] at hb h1 ⊢
  exact ⟨hl,h1,fun i v hv=>⟨_,rfl,by rw [add_zero'];exact eH hb (by rw [List.getElem?_append_left (by rcases Nat.lt_or_ge i (aG ds).length with e|e;exact e;rw [List.getElem?_eq_none e] at hv;cases hv)];exact hv)⟩,h.cZ,fun e=>nomatch e⟩
abbrev RN (V:View)(p:OA)(n c:Nat)(x:Nat):Prop:=RD V p n c (ag x)
theorem iR {V:View}{p:OA}{n c:Nat}{ds:List Nat}(h:RD V p n c ds)(hm:ds.length<=1099511627776) :
  ab prog 188 #[.slice p n c] V fun r V'=>∃q k c',r=.slice q k c'/\RN V' q k c' (val ds):=by
 refine D5 p n c V _ fun V1 l1=>(aV (h.le l1) (by omega)).mono ?_
 rintro r V2 l2 ⟨k,rfl,h2⟩
 refine ⟨_,_,_,rfl,fun V3 l3=>(ma (h2.le l3) (by have:=kx ds;omega)).mono ?_⟩
 rintro r V4 l4 ⟨q,k',c',rfl,h4⟩
 refine ⟨_,_,_,rfl,fun V5 l5=>⟨_,_,_,rfl,?_⟩⟩
 unfold RN
 rw [←aN h.cZ]
 exact h4.le l5
theorem AE {V:View}{p:OA}{n c:Nat}{ds:List Nat}(h:RD V p n c ds)(hm:ds.length<=1099511627776) :
  ab prog 206 #[.slice p n c] V fun r V'=>r=.bool (decide (ag (val ds)=ds)):=by
 have hl:=h.len
 refine yA p n c V _ ⟨fun h0 V1 l1=>?_,fun h0=>?_⟩
 ·have:ds=[]:=List.length_eq_zero_iff.1 (by simp at h0;omega)
  subst this;rfl
 ·have h0:0<n:=by simp at h0;omega
  simp (disch:=omega) only [aB]
  refine h.rd (n-1) (by omega) (by omega) fun V1 l1=>?_
  congr 1
  rw [Bool.eq_iff_iff]
  simp only [bne_iff_ne,ne_eq,decide_eq_true_eq]
  subst hl
  constructor
  ·intro hz
   exact pj h.cZ (sr fun _=>by simpa using hz)
  ·intro he hz
   have:rI ds:=by rw [←he];exact gZ _
   exact this.last (by omega) (by simpa using hz)
theorem dR {V:View}(u:Int)(h0:0<=u)(h1:u<18446744073709551616) :
  ab prog 189 #[.int .u64 u] V fun r V'=>∃q k c',r=.slice q k c'/\RN V' q k c' u.toNat:=by
 obtain ⟨u,rfl⟩:=Int.eq_ofNat_of_zero_le h0
 refine tF _ V _ ⟨by omega,fun V1 l1 bk hb=>?_⟩
 rw [lF,iB,qf (by omega)] at hb
 have hb:V1.bG bk (.cells (aG [u%4294967296,u / 4294967296]).toArray 188 (0,0)):=by
  simpa [aG] using hb
 have hd:bN [u%4294967296,u / 4294967296]:=by simp [bN];omega
 refine (aV (RD.bG hb hd (n:=2) (c:=2) rfl (Nat.le_refl _)) (by simp)).mono ?_
 rintro r V2 l2 ⟨k,rfl,h2⟩
 refine ⟨_,_,_,rfl,fun _ V3 l3=>⟨_,_,_,rfl,?_⟩⟩
 rw [aN hd] at h2
 have:val [u%4294967296,u / 4294967296]=(u:Int).toNat:=by simp;omega
 rw [this] at h2
 exact h2.le l3
theorem zx {V:View}{p q:OA}{n c m e:Nat}{xa xb:List Nat}(ha:RD V p n c xa)(hb:RD V q m e xb)(hm:xa.length<=1099511627776)(hn:xb.length<=1099511627776) :
  ab prog 230 #[.slice p n c,.slice q m e] V fun r V'=>r=.int .i64 (jK (val xa) (val xb)):=by
 have la:=kx xa
 have lb:=kx xb
 refine F0 p n c q m e V _ fun V1 l1=>(aV (ha.le l1) (by omega)).mono ?_
 rintro r V2 l2 ⟨n,rfl,h1⟩
 refine ⟨_,_,_,rfl,fun V3 l3=>(aV (hb.le (l1.trans (l2.trans l3))) (by omega)).mono ?_⟩
 rintro r V4 l4 ⟨m,rfl,h2⟩
 refine ⟨_,_,_,rfl,?_⟩
 replace h1:=h1.le (l3.trans l4)
 rw [aN ha.cZ] at h1 la
 rw [aN hb.cZ] at h2 lb
 generalize val xa=x at *
 generalize val xb=y at *
 have hl1:=h1.len
 have hl2:=h2.len
 refine ⟨fun h0=>⟨fun h3 V5 l5=>?_,fun h3 V5 l5=>?_⟩,fun h0=>?_⟩
 ·have:=km (a:=x) (b:=y) (by simp at h3;omega)
  rw [jK,if_pos this]
 ·have:=km (a:=y) (b:=x) (by simp at h0 h3;omega)
  rw [jK,if_neg (by omega),if_pos this]
 ·have h0:n=m:=by simp at h0;omega
  subst h0
  simp (disch:=omega) only [aB]
  refine ⟨fun z V'=>-1<=z/\z<n/\(ag x).drop (z+1).toNat=(ag y).drop (z+1).toNat,fun z=>(z+1).toNat,⟨_,by (try dsimp only);and_intros<;>trivial,by (try dsimp only);omega,by (try dsimp only);omega,?_⟩,?_⟩
  ·(try dsimp only)
   rw [List.drop_of_length_le (by omega),List.drop_of_length_le (by omega)]
  ·rintro i V7 l7 ⟨hi0,hi1,hd⟩
   dsimp only at hi0 hi1 hd ⊢
   refine ⟨by trivial,fun h3=>?_,fun h3 V5 l5=>?_⟩
   ·have h3:0<=i:=by simpa using h3
    obtain ⟨i,rfl⟩:=Int.eq_ofNat_of_zero_le h3
    simp (disch:=omega) only [aB]
    have hd':(ag x).drop (i+1)=(ag y).drop (i+1):=hd
    refine (h1.le l7).rd i rfl (by omega) ((h2.le l7).rd i rfl (by omega) ⟨fun h4 V8 l8=>?_,fun h4=>?_⟩)
    ·have:=jy (aH x) (by omega) (by omega) hd' (by simpa using h4)
     rw [ae,ae] at this
     rw [jK,if_pos this]
    ·refine (h1.le l7).rd i rfl (by omega) ((h2.le l7).rd i rfl (by omega) ⟨fun h5 V8 l8=>?_,fun h5=>?_⟩)
     ·have:=jy (aH y) (by omega) (by omega) hd'.symm (by simpa using h5)
      rw [ae,ae] at this
      rw [jK,if_neg (by omega),if_pos this]
     ·refine ⟨_,?_,by (try dsimp only);and_intros<;>trivial,?_,?_,?_⟩
      ·(try dsimp only);omega
      ·(try dsimp only);omega
      ·(try dsimp only);omega
      ·(try dsimp only)
       have:((i:Int)-1+1).toNat=i:=by omega
       rw [this,List.drop_eq_getElem_cons (by omega),List.drop_eq_getElem_cons (l:=ag y) (by omega),hd']
       congr 1
       simp at h4 h5
       omega
   ·have h3:i=-1:=by simp at h3;omega
    subst h3
    have:ag x=ag y:=by simpa using hd
    have:=pf this
    subst this
    simp [jK]
theorem uo {E A B c d x y W:Nat}(h:E+W*c=A+B)(hd:d=c+x+y):E+W*(d%4294967296)+W*4294967296*(d / 4294967296)=A+W*x+(B+W*y):=by
 have h1:W*(d%4294967296)+W*4294967296*(d / 4294967296)=W*d:=by
  rw [Nat.mul_assoc,←Nat.mul_add,Nat.mod_add_div]
 rw [Nat.add_assoc,h1,hd,Nat.mul_add,Nat.mul_add]
 omega
theorem HC {V:View}{p q:OA}{n c m e:Nat}{xa xb:List Nat}(ha:RD V p n c xa)(hb:RD V q m e xb)(hm:xa.length<=1099511627776)(hn:xb.length<=1099511627776) :
  ab prog 228 #[.slice p n c,.slice q m e] V fun r V'=>∃p' n' c',r=.slice p' n' c'/\RN V' p' n' c' (val xa+val xb):=by
 have hla:=ha.len
 have hlb:=hb.len
 refine FZ p n c q m e V _ ⟨fun z V'=>∃xs ys,RD V' z.1 z.2.1 z.2.2.1 xs/\RD V' z.2.2.2.1 z.2.2.2.2.1 z.2.2.2.2.2 ys/\ys.length<=xs.length/\xs.length<=1099511627776/\val xs+val ys=val xa+val xb,⟨fun h0=>?_,fun h0=>?_⟩,?_⟩
 ·exact ⟨(_,_,_,_,_,_),by (try dsimp only);and_intros<;>trivial,xb,xa,hb,ha,by simp at h0;omega,hn,by omega⟩
 ·exact ⟨(_,_,_,_,_,_),by (try dsimp only);and_intros<;>trivial,xa,xb,ha,hb,by simp at h0;omega,hm,rfl⟩
 ·rintro ⟨p,n,c,q,m,e⟩ V1 l1 ⟨xs,ys,hx,hy,hl,hm,hv⟩
  dsimp only at hx hy ⊢
  rw [←hv]
  clear hv ha hb hla hlb
  have hlx:=hx.len
  have zT:=hy.len
  simp (disch:=omega) only [aB,cN]
  have hn1:((n:Int)+1).toNat=n+1:=by omega
  rw [hn1]
  refine ⟨by trivial,by omega,by omega,by omega,fun z V'=>0<=z.1/\z.1<=1/\0<=z.2.1/\z.2.1<=n/\∃es:List Nat,z.2.2=aG es/\es.length=n+1/\bN es /\
   val (es.take z.2.1.toNat)+4294967296^z.2.1.toNat*z.1.toNat=val (xs.take z.2.1.toNat)+val (ys.take z.2.1.toNat),fun z=>n-z.2.1.toNat,⟨(0,0,aG (List.replicate (n+1) 0)),by (try dsimp only);and_intros<;>trivial,by (try dsimp only);omega,by (try dsimp only);omega,by (try dsimp only);omega,by (try dsimp only);omega,_,rfl,by simp,bN.rep _,by simp⟩,?_⟩
  rintro ⟨cy,i,vs⟩ V2 l2 ⟨hc0,hc1,hi0,hi1,es,rfl,hes,hde,hv⟩
  dsimp only at hc0 hc1 hi0 hi1 hv ⊢
  obtain ⟨i,rfl⟩:=Int.eq_ofNat_of_zero_le hi0
  obtain ⟨cy,rfl⟩:=Int.eq_ofNat_of_zero_le hc0
  simp only [Int.toNat_natCast] at hv
  refine ⟨by trivial,fun h3=>?_,fun h3=>?_⟩
  ·have h3:i<n:=by simpa using h3
   refine (hx.le l2).rd i rfl (by omega) ?_
   have xj:=hx.cZ.get (i:=i) (by omega)
   have next:∀d:Nat,d<8589934592->val (es.take i)+4294967296^i*(d%4294967296)+4294967296^i*4294967296*(d / 4294967296)=val (xs.take (i+1))+val (ys.take (i+1)) ->
     ∃es':List Nat,(aG es).set i (.int .u32 ((d%4294967296:Nat):Int))=aG es'/\es'.length=n+1/\bN es' /\
     val (es'.take (i+1))+4294967296^(i+1)*(d / 4294967296)=val (xs.take (i+1))+val (ys.take (i+1)):=by
    intro d hd he
    refine ⟨es.set i (d%4294967296),bA _ _ _,by simpa using hes,hde.set _ _ (by omega),?_⟩
    rw [aK _ _ _ (by omega),Nat.pow_succ]
    exact he
   refine ⟨fun h4=>?_,fun h4=>?_⟩
   ·have h4:i<m:=by simpa using h4
    refine (hy.le l2).rd i rfl (by omega) ?_
    have hdy:=hy.cZ.get (i:=i) (by omega)
    simp (disch:=omega) only [aO,aB,iB,lF]
    refine ⟨⟨by omega,by omega⟩,by simp;omega,by omega,(_,_,_),?_,by (try dsimp only);and_intros<;>trivial,?_⟩
    ·(try dsimp only);omega
    ·(try dsimp only)
     have hi2:((i:Int)+1).toNat=i+1:=by omega
     obtain ⟨es',e1,e2,e3,e4⟩:=next (cy+xs[i]+ys[i]) (by omega) (by rw [aw _ _ (by omega),aw _ _ (by omega)];exact uo hv rfl)
     refine ⟨by omega,by omega,by omega,by omega,es',?_,e2,e3,?_⟩
     ·rw [←e1];simp
     ·rw [hi2,←e4];congr 2
   ·have h4:m<=i:=by simpa using h4
    simp (disch:=omega) only [aO,aB,iB,lF]
    refine ⟨⟨by omega,by omega⟩,by simp;omega,by omega,(_,_,_),?_,by (try dsimp only);and_intros<;>trivial,?_⟩
    ·(try dsimp only);omega
    ·(try dsimp only)
     have hi2:((i:Int)+1).toNat=i+1:=by omega
     obtain ⟨es',e1,e2,e3,e4⟩:=next (cy+xs[i]) (by omega) (by
      rw [aw _ _ (by omega),ao (ds:=ys) (i:=i+1) (by omega)]
      have:=uo (y:=0) hv (d:=cy+xs[i]) rfl
      rwa [ao (ds:=ys) (by omega),Nat.mul_zero,Nat.add_zero] at this)
     refine ⟨by omega,by omega,by omega,by omega,es',?_,e2,e3,?_⟩
     ·rw [←e1];simp
     ·rw [hi2,←e4];congr 2
  ·have h3:i=n:=by simp at h3;omega
   subst h3
   simp (disch:=omega) only [qf]
   refine ⟨⟨by omega,by omega⟩,by simp;omega,fun V3 l3 bk hb=>?_⟩
   have e1:(aG es).set (0+((i:Int).toNat)*1) (.int .u32 (cy:Int))=aG (es.set i cy):=by rw [←bA];simp
   rw [e1] at hb
   have hd2:=hde.set i cy (by omega)
   refine (aV (RD.bG hb hd2 (n:=i+1) (c:=i+1) (by simp;omega) (Nat.le_refl _)) (by simp;omega)).mono ?_
   rintro r V4 l4 ⟨k,rfl,h4⟩
   refine ⟨_,_,_,rfl,fun _ V5 l5=>⟨_,_,_,rfl,?_⟩⟩
   rw [aN hd2] at h4
   have e2:val (es.set i cy)=val xs+val ys:=by
    have:=aK es i cy (by omega)
    rw [ao (by simp;omega)] at this
    rw [this,hv,ao (by omega),ao (by omega)]
   rw [e2] at h4
   exact h4.le l5
theorem KR {E A B c x y W:Nat}(h:E+B=A+W*c){v:Int}(hc:c<=1)(hx:x<4294967296)(hy:y<4294967296)(hv:v=((x:Int)-(c+y))%18446744073709551616) :
  0<=v/\v / 9223372036854775808<=1/\0<=v / 9223372036854775808/\E+W*(v%4294967296).toNat+(B+W*y)=A+W*x+W*4294967296*(v / 9223372036854775808).toNat:=by
 rcases Nat.lt_or_ge x (c+y) with hl|hl
 ·have e1:v=18446744073709551616+(x:Int)-(c+y):=by omega
  have e2:(v / 9223372036854775808).toNat=1:=by omega
  have e3:(v%4294967296).toNat+(c+y)=x+4294967296:=by omega
  refine ⟨by omega,by omega,by omega,?_⟩
  rw [e2,Nat.mul_one]
  have:=congrArg (W*·) e3
  simp only [Nat.mul_add] at this
  omega
 ·have e1:v=(x:Int)-(c+y):=by omega
  have e2:(v / 9223372036854775808).toNat=0:=by omega
  have e3:(v%4294967296).toNat+(c+y)=x:=by omega
  refine ⟨by omega,by omega,by omega,?_⟩
  rw [e2,Nat.mul_zero,Nat.add_zero]
  have:=congrArg (W*·) e3
  simp only [Nat.mul_add] at this
  omega
theorem EP {V:View}{p q:OA}{n c m e:Nat}{xs ys:List Nat}(hx:RD V p n c xs)(hy:RD V q m e ys)(hm:xs.length<=1099511627776)(hl:ys.length<=xs.length)(hle:val ys<=val xs) :
  ab prog 234 #[.slice p n c,.slice q m e] V fun r V'=>∃p' n' c',r=.slice p' n' c'/\RN V' p' n' c' (val xs-val ys):=by
 have hlx:=hx.len
 have zT:=hy.len
 refine D7 p n c q m e V _ ⟨by omega,by omega,by omega,fun z V'=>0<=z.1/\z.1<=1/\0<=z.2.1/\z.2.1<=n/\∃es:List Nat,z.2.2=aG es/\es.length=n/\bN es /\
   val (es.take z.2.1.toNat)+val (ys.take z.2.1.toNat)=val (xs.take z.2.1.toNat)+4294967296^z.2.1.toNat*z.1.toNat,fun z=>n-z.2.1.toNat,
   ⟨(0,0,List.replicate n (.int .u32 0)),by (try dsimp only);and_intros<;>trivial,by (try dsimp only);omega,by (try dsimp only);omega,by (try dsimp only);omega,by (try dsimp only);omega,List.replicate n 0,cN n,by simp,bN.rep _,by simp⟩,?_⟩
 rintro ⟨cy,i,vs⟩ V2 l2 ⟨hc0,hc1,hi0,hi1,es,rfl,hes,hde,hv⟩
 dsimp only at hc0 hc1 hi0 hi1 hv ⊢
 obtain ⟨i,rfl⟩:=Int.eq_ofNat_of_zero_le hi0
 obtain ⟨cy,rfl⟩:=Int.eq_ofNat_of_zero_le hc0
 simp only [Int.toNat_natCast] at hv
 refine ⟨by trivial,fun h3=>?_,fun h3=>?_⟩
 ·have h3:i<n:=by simpa using h3
  refine (hx.le l2).rd i rfl (by omega) ?_
  have xj:=hx.cZ.get (i:=i) (by omega)
  refine ⟨fun z V'=>∃y:Nat,z=cy+y/\y<4294967296/\val (ys.take (i+1))=val (ys.take i)+4294967296^i*y,⟨fun h4=>?_,fun h4=>?_⟩,?_⟩
  ·have h4:i<m:=by simpa using h4
   refine (hy.le l2).rd i rfl (by omega) ?_
   have hdy:=hy.cZ.get (i:=i) (by omega)
   simp (disch:=omega) only [aO]
   exact ⟨_,by (try dsimp only);and_intros<;>trivial,ys[i],rfl,hdy,aw _ _ (by omega)⟩
  ·have h4:m<=i:=by simpa using h4
   exact ⟨_,by (try dsimp only);and_intros<;>trivial,0,by simp,by omega,by rw [ao (by omega),ao (by omega)];simp⟩
  ·rintro t V3 l3 ⟨y,rfl,hdy,hy'⟩
   refine ⟨by trivial,⟨by omega,by simpa using h3⟩,by simp;omega,by omega,?_⟩
   simp (disch:=omega) only [aO,aB,rm,iB,KM]
   obtain ⟨v,vx⟩:∃v:Int,v=((xs[i]:Int)-((cy:Int)+(y:Int)))%18446744073709551616:=⟨_,rfl⟩
   obtain ⟨g1,g2,g3,g4⟩:=KR hv (by omega) xj hdy vx
   rw [←vx]
   refine ⟨(_,_,_),?_,by (try dsimp only);and_intros<;>trivial,?_⟩
   ·(try dsimp only);omega
   ·(try dsimp only)
    have hi2:((i:Int)+1).toNat=i+1:=by omega
    refine ⟨g3,g2,by omega,by omega,es.set i (v%4294967296).toNat,?_,by simpa using hes,hde.set _ _ (by omega),?_⟩
    ·rw [←bA]
     congr 2
     ·simp
     ·omega
    ·rw [hi2,aK _ _ _ (by omega),hy',g4,aw _ _ (by omega),Nat.pow_succ]
 ·have h3:i=n:=by simp at h3;omega
  subst h3
  intro V3 l3 bk hb
  refine (aV (RD.bG hb hde (n:=i) (c:=i) hes.symm (Nat.le_refl _)) (by omega)).mono ?_
  rintro r V4 l4 ⟨k,rfl,h4⟩
  refine ⟨_,_,_,rfl,fun _ V5 l5=>⟨_,_,_,rfl,?_⟩⟩
  rw [aN hde] at h4
  rw [ao (by omega),ao (by omega),ao (by omega)] at hv
  have e1:=eL hde
  rw [hes] at e1
  have e2:cy=0:=by
   rcases Nat.eq_zero_or_pos cy with h|h
   ·exact h
   ·have:4294967296^i*1<=4294967296^i*cy:=Nat.mul_le_mul_left _ h
    omega
  subst e2
  rw [show val es=val xs-val ys from by omega] at h4
  exact h4.le l5
theorem fO {a b:Nat}:jK a b<0↔a<b:=by
 unfold jK
 split
 ·simp;omega
 ·split<;>simp<;>omega
theorem iH {a b:Nat}:jK a b=0↔a=b:=by
 unfold jK
 split
 ·simp;omega
 ·split
  ·simp;omega
  ·simp;omega
theorem zC {V:View}{p q:OA}{n c m e:Nat}{xa xb:List Nat}(ha:RD V p n c xa)(hb:RD V q m e xb)(hm:xa.length<=1099511627776)(hn:xb.length<=1099511627776) :
  ab prog 229 #[.slice p n c,.slice q m e] V fun r V'=>∃p' n' c',r=.tuple #[.slice p' n' c',.bool (decide (val xb<=val xa))]/\RN V' p' n' c' (val xa-val xb):=by
 refine F6 p n c q m e V _ fun V1 l1=>(zx (ha.le l1) (hb.le l1) hm hn).mono ?_
 rintro r V2 l2 rfl
 refine ⟨_,rfl,fun h0 V3 l3=>?_,fun h0 V3 l3=>?_⟩
 ·have h0:val xa<val xb:=by simpa [fO] using h0
  rw [Nat.sub_eq_zero_of_le (by omega),decide_eq_false (by omega)]
  exact ⟨_,_,_,rfl,RD.nil⟩
 ·have h0:val xb<=val xa:=by simpa [←Int.not_lt,fO] using h0
  rw [decide_eq_true h0]
  refine (aV ((ha.le l1).le (l2.trans l3)) (by omega)).mono ?_
  rintro r V4 l4 ⟨n1,rfl,h1⟩
  refine ⟨_,_,_,rfl,fun V5 l5=>(aV ((hb.le l1).le (l2.trans (l3.trans (l4.trans l5)))) (by omega)).mono ?_⟩
  rintro r V6 l6 ⟨n2,rfl,h2⟩
  rw [aN ha.cZ] at h1
  rw [aN hb.cZ] at h2
  have:=bh ha.cZ
  refine ⟨_,_,_,rfl,fun V7 l7=>(EP (h1.le (l5.trans (l6.trans l7))) (h2.le l7) (by omega) (aD h0) (by rw [ae,ae];exact h0)).mono ?_⟩
  rintro r V8 l8 ⟨p',n',c',rfl,h3⟩
  rw [ae,ae] at h3
  exact ⟨_,_,_,rfl,fun V9 l9=>⟨_,_,_,rfl,h3.le l9⟩⟩
end Go.Proofs.Tryz
namespace Go.dP
def bM (n:Nat):Nat:=if n=0 then 0 else n.log2+1
theorem pN (n:Nat):n<2^bM n:=by
 unfold bM;split
 ·subst_vars;decide
 ·exact Nat.lt_log2_self
theorem pK {n:Nat}(h:n≠0):2^(bM n-1)<=n:=by
 unfold bM;rw [if_neg h];exact Nat.log2_self_le h
theorem rN {n b:Nat}(h0:n<2^b)(h1:b=0\/2^(b-1)<=n):bM n=b:=by
 rcases h1 with h1|h1
 ·subst h1;have:n=0:=by simpa using h0
  subst this;rfl
 ·have hn:n≠0:=by have:=Nat.two_pow_pos (b-1);omega
  have g0:=pN n
  have g1:=pK hn
  have e1:¬bM n<b:=fun h=>by have:=Nat.pow_le_pow_right (n:=2) (by omega) (show bM n<=b-1 by omega);omega
  have e2:¬b<bM n:=fun h=>by have:=Nat.pow_le_pow_right (n:=2) (by omega) (show b<=bM n-1 by omega);omega
  omega
theorem jl {n b:Nat}:bM n<=b↔n<2^b:=by
 constructor
 ·intro h;exact Nat.lt_of_lt_of_le (pN n) (Nat.pow_le_pow_right (by omega) h)
 ·intro h
  rcases Nat.lt_or_ge b (bM n) with h'|h'
  ·have hn:n≠0:=by intro e;subst e;simp [bM] at h'
   have:=pK hn
   have:=Nat.pow_le_pow_right (n:=2) (by omega) (show b<=bM n-1 by omega)
   omega
  ·exact h'
theorem uz {n k:Nat}(h:2^k<=n):bM (n / 2^k)+k=bM n:=by
 have hp:=Nat.two_pow_pos k
 have hq:n / 2^k≠0:=by have:=Nat.div_pos h hp;omega
 have g0:=pN (n / 2^k)
 have g1:=pK hq
 refine (rN ?_ (.inr ?_)).symm
 ·rw [Nat.pow_add];exact (Nat.div_lt_iff_lt_mul hp).1 g0
 ·have hb:0<bM (n / 2^k):=by unfold bM;rw [if_neg hq];omega
  rw [show bM (n / 2^k)+k-1=bM (n / 2^k)-1+k from by omega,Nat.pow_add]
  exact (Nat.le_div_iff_mul_le hp).1 g1
end Go.dP
namespace Go.Proofs.Tryz
open Go.bE Go.dP
theorem fP (a k:Nat):((a:Nat):Int).fdiv (2^k)=((a / 2^k:Nat):Int):=by
 rw [Int.fdiv_eq_ediv_of_nonneg _ (by have:=Int.pow_pos (n:=2) (m:=k) (by omega);omega)]
 simp
def Ml:ByteArray:=⟨#[0,1,2,2,3,3,3,3,4,4,4,4,4,4,4,4,5,5,5,5,5,5,5,5,5,5,5,5,5,5,5,5,6,6,6,6,6,6,6,6,6,6,6,6,6,6,6,6,6,6,6,6,6,6,6,6,6,6,6,6,6,6,6,6,7,7,7,7,7,7,7,7,7,7,7,7,7,7,7,7,7,7,7,7,7,7,7,7,7,7,7,7,7,7,7,7,7,7,7,7,7,7,7,7,7,7,7,7,7,7,7,7,7,7,7,7,7,7,7,7,7,7,7,7,7,7,7,7,8,8,8,8,8,8,8,8,8,8,8,8,8,8,8,8,8,8,8,8,8,8,8,8,8,8,8,8,8,8,8,8,8,8,8,8,8,8,8,8,8,8,8,8,8,8,8,8,8,8,8,8,8,8,8,8,8,8,8,8,8,8,8,8,8,8,8,8,8,8,8,8,8,8,8,8,8,8,8,8,8,8,8,8,8,8,8,8,8,8,8,8,8,8,8,8,8,8,8,8,8,8,8,8,8,8,8,8,8,8,8,8,8,8,8,8,8,8,8,8,8,8,8,8,8,8,8,8]⟩
set_option maxRecDepth 10000 in
theorem LA {V:View}(x:Nat)(hx:x<4294967296) :
  ab prog 225 #[.int .u32 (x:Int)] V fun r V'=>r=.int .i64 (bM x:Int):=by
 refine oM _ V _ ⟨fun z _=>∃y b:Nat,z=((y:Int),(b:Int))/\y<65536/\b<=16/\bM x=bM y+b,⟨fun h0=>⟨by omega,?_⟩,fun h0=>?_⟩,?_⟩
 ·rw [fP]
  have h0:2^16<=x:=by simp at h0;omega
  exact ⟨_,⟨rfl,rfl⟩,x / 2^16,16,rfl,by omega,by omega,(uz h0).symm⟩
 ·exact ⟨_,⟨rfl,rfl⟩,x,0,rfl,by simp at h0;omega,by omega,rfl⟩
 ·rintro _ V1 l1 ⟨y,b,rfl,hy,hb,e⟩
  rw [e];clear e
  refine ⟨by trivial,fun z _=>∃y' b':Nat,z=((y':Int),(b':Int))/\y'<256/\b'<=24/\bM y+b=bM y'+b',⟨fun h0=>⟨by omega,?_⟩,fun h0=>?_⟩,?_⟩
  ·dsimp only at h0 ⊢
   rw [fP]
   simp (disch:=omega) only [aB]
   have h0:2^8<=y:=by simp at h0;omega
   exact ⟨(((y / 2^8:Nat):Int),(b:Int)+8),⟨rfl,rfl⟩,y / 2^8,b+8,by simp,by omega,by omega,by have:=uz h0;omega⟩
  ·exact ⟨_,⟨rfl,rfl⟩,y,b,rfl,by simp at h0;omega,by omega,rfl⟩
  ·rintro _ V2 l2 ⟨y,b,rfl,hy,hb,e⟩
   rw [e];clear e
   have hw:IntKind.u8.wrap (y:Int)=y:=IntWalk.u8_in _ (by omega)
   dsimp only
   rw [hw]
   have hsz:(Ml.size:Int)=256:=rfl
   refine ⟨by trivial,⟨by omega,by show (y:Int)<(Ml.size:Int);rw [hsz];omega⟩,fun V3 l3=>?_⟩
   show Value.int .i64 (i64.wrap (b+i64.wrap ((Ml.data.toList.getD (y:Int).toNat 0).toNat:Int)))=_
   congr 1
   have key:∀y:Nat,y<256->(Ml.data.toList.getD y 0).toNat=bM y:=by decide +kernel
   have hbl:bM y<=8:=jl.2 (by omega)
   have:=key y hy
   rw [Int.toNat_natCast,this]
   simp (disch:=omega) only [aB]
   omega
theorem gi {V:View}(x:Nat)(hx:x<4294967296) :
  ab prog 203 #[.int .u32 (x:Int)] V fun r V'=>r=.int .i64 (32-(bM x:Int)):=by
 refine iE _ V _ fun V1 l1=>(LA x hx).mono ?_
 rintro r V2 l2 rfl
 have hbl:bM x<=32:=jl.2 (by omega)
 refine ⟨_,rfl,fun V3 l3=>?_⟩
 simp (disch:=omega) only [aB]
theorem Gr (a:Nat)(ha:a<18446744073709551616):bz .and .u64 (a:Int) 4294967295=((a%4294967296:Nat):Int):=by
 rw [bz,rm]
 have h2:(BitVec.ofInt IntKind.u64.bits ((a:Nat):Int) &&& BitVec.ofInt IntKind.u64.bits 4294967295).toNat=a%4294967296:=by
  show (BitVec.ofInt 64 ((a:Nat):Int) &&& BitVec.ofInt 64 ((4294967295:Nat):Int)).toNat=_
  rw [BitVec.ofInt_natCast,BitVec.ofInt_natCast,BitVec.toNat_and,BitVec.toNat_ofNat,BitVec.toNat_ofNat,Nat.mod_eq_of_lt (by omega),Nat.mod_eq_of_lt (by omega)]
  have:=Nat.and_two_pow_sub_one_eq_mod a 32
  exact this
 rw [h2]
 omega
theorem Dk (a b c d:Nat)(ha:a<4294967296)(hb:b<4294967296)(hc:c<4294967296)(hd:d<4294967296) :
  a*c+(a*d+b*d / 4294967296) / 4294967296+((a*d+b*d / 4294967296)%4294967296+b*c) / 4294967296=(a*4294967296+b)*(c*4294967296+d) / 18446744073709551616 /\
  a*c<=18446744065119617025/\a*d<=18446744065119617025/\b*c<=18446744065119617025/\b*d<=18446744065119617025:=by
 have h1:a*c<=4294967295*4294967295:=Nat.mul_le_mul (by omega) (by omega)
 have h2:a*d<=4294967295*4294967295:=Nat.mul_le_mul (by omega) (by omega)
 have h3:b*c<=4294967295*4294967295:=Nat.mul_le_mul (by omega) (by omega)
 have h4:b*d<=4294967295*4294967295:=Nat.mul_le_mul (by omega) (by omega)
 have e:(a*4294967296+b)*(c*4294967296+d)=(a*c)*18446744073709551616+(a*d)*4294967296+(b*c)*4294967296+b*d:=by grind
 rw [e]
 generalize a*c=p at *
 generalize a*d=q at *
 generalize b*c=r at *
 generalize b*d=s at *
 refine ⟨by omega,by omega,by omega,by omega,by omega⟩
theorem LB {V:View}(x y:Nat)(hx:x<18446744073709551616)(hy:y<18446744073709551616) :
  ab prog 226 #[.int .u64 (x:Int),.int .u64 (y:Int)] V fun r V'=>r=.tuple #[.int .u64 ((x*y / 18446744073709551616:Nat):Int),.int .u64 ((x*y%18446744073709551616:Nat):Int)]:=by
 refine oN _ _ V _ ⟨by omega,by omega,by omega,by omega,by omega,fun V1 l1=>?_⟩
 have p:=Dk (x / 4294967296) (x%4294967296) (y / 4294967296) (y%4294967296) (by omega) (by omega) (by omega) (by omega)
 rw [Nat.div_add_mod' x 4294967296,Nat.div_add_mod' y 4294967296] at p
 obtain ⟨p1,p2,p3,p4,p5⟩:=p
 have hlo:u64.wrap ((x:Int)*y)=((x*y%18446744073709551616:Nat):Int):=by rw [rm];simp
 rw [hlo,Gr x hx,Gr y hy,lF,lF]
 rw [←p1]
 have hA:((x:Int) / 4294967296)*((y:Int) / 4294967296)=((x / 4294967296*(y / 4294967296):Nat):Int):=by simp
 have hB:((x:Int) / 4294967296)*((y%4294967296:Nat):Int)=((x / 4294967296*(y%4294967296):Nat):Int):=by simp
 have hC:((x%4294967296:Nat):Int)*((y:Int) / 4294967296)=((x%4294967296*(y / 4294967296):Nat):Int):=by simp
 have hD:((x%4294967296:Nat):Int)*((y%4294967296:Nat):Int)=((x%4294967296*(y%4294967296):Nat):Int):=by simp
 rw [hA,hB,hC,hD]
 generalize x / 4294967296*(y / 4294967296)=a at *
 generalize x / 4294967296*(y%4294967296)=b at *
 generalize x%4294967296*(y / 4294967296)=c at *
 generalize x%4294967296*(y%4294967296)=d at *
 simp only [lF]
 have w1:u64.wrap (d:Int)=d:=aO (by omega)
 have w2:u64.wrap (b:Int)=b:=aO (by omega)
 have w3:u64.wrap (c:Int)=c:=aO (by omega)
 have w4:u64.wrap (a:Int)=a:=aO (by omega)
 rw [w1,w2,w3,w4]
 have w5:u64.wrap ((b:Int)+d / 4294967296)=((b+d / 4294967296:Nat):Int):=by rw [aO (by omega)];omega
 rw [w5,Gr _ (by omega)]
 have w6:u64.wrap (((b+d / 4294967296)%4294967296:Nat)+(c:Int))=(((b+d / 4294967296)%4294967296+c:Nat):Int):=by rw [aO (by omega)];omega
 rw [w6]
 have hlt:x*y / 18446744073709551616<18446744073709551616:=by
  have:x*y<18446744073709551616*18446744073709551616:=Nat.mul_lt_mul'' hx hy
  omega
 have w7:u64.wrap ((a:Int)+((b+d / 4294967296:Nat):Int) / 4294967296)=((a+(b+d / 4294967296) / 4294967296:Nat):Int):=by
  rw [aO (by omega)];omega
 rw [w7]
 have w8:u64.wrap (((a+(b+d / 4294967296) / 4294967296:Nat):Int)+(((b+d / 4294967296)%4294967296+c:Nat):Int) / 4294967296)=((a+(b+d / 4294967296) / 4294967296+((b+d / 4294967296)%4294967296+c) / 4294967296:Nat):Int):=by
  rw [aO (by omega)];omega
 rw [w8]
theorem Ly {V:View}(x y c:Nat)(hx:x<4294967296)(hy:y<4294967296)(hc:c<4294967296) :
  ab prog 200 #[.int .u32 (x:Int),.int .u32 (y:Int),.int .u32 (c:Int)] V fun r V'=>r=.tuple #[.int .u32 (((x+y+c)%4294967296:Nat):Int),.int .u32 (((x+y+c) / 4294967296:Nat):Int)]:=by
 refine oK _ _ _ V _ ⟨by omega,fun V1 l1=>?_⟩
 simp (disch:=omega) only [aO,iB,lF]
 have e1:((x:Int)+y+c)%4294967296=(((x+y+c)%4294967296:Nat):Int):=by omega
 have e2:((x:Int)+y+c) / 4294967296%4294967296=(((x+y+c) / 4294967296:Nat):Int):=by omega
 rw [e1,e2]
theorem Kj (a b:Nat)(ha:a<4294967296)(hb:b<4294967296):bz .or .u64 (b:Int) ((a:Int)*4294967296)=(b:Int)+(a:Int)*4294967296:=by
 have h:bz .or .u64 (b:Int) ((a:Int)*4294967296)=bz .or .u64 ((a:Int)*4294967296) (b:Int):=by
  simp only [bz,BitVec.or_comm]
 rw [h,Dr a b ha hb];omega
theorem Rz (b:Nat)(hb:b<4294967296):bz .or .u64 0 (b:Int)=b:=by
 have:=Dr 0 b (by omega) hb
 simpa using this
theorem kN {V:View}{p:OA}{n c:Nat}{ds:List Nat}(h:RD V p n c ds)(hm:ds.length<=1099511627776) :
  ab prog 221 #[.slice p n c] V fun r V'=>r=.tuple #[.int .u64 ((if val ds<18446744073709551616 then val ds else 0:Nat):Int),.bool (decide (val ds<18446744073709551616))]:=by
 refine D6 p n c V _ fun V1 l1=>(aV (h.le l1) (by omega)).mono ?_
 rintro r V2 l2 ⟨n,rfl,h1⟩
 rw [aN h.cZ] at h1
 generalize val ds=x at *
 have hl:=h1.len
 have h2:(ag x).length<=2↔x<18446744073709551616:=aI (k:=2)
 refine ⟨_,_,_,rfl,fun h0 V3 l3=>?_,fun h0=>?_⟩
 ·have h0:¬x<18446744073709551616:=by simp at h0;omega
  rw [if_neg h0,decide_eq_false h0];rfl
 ·have hx:x<18446744073709551616:=by simp at h0;omega
  rw [if_pos hx,decide_eq_true hx]
  have hn:n<=2:=by omega
  refine ⟨fun z V'=>0<=z.2/\z.2<=n/\z.1=(val ((ag x).take z.2.toNat):Int),fun z=>n-z.2.toNat,⟨(0,0),by (try dsimp only);and_intros<;>trivial,by (try dsimp only);omega,by (try dsimp only);omega,by simp⟩,?_⟩
  rintro ⟨u,i⟩ V4 l4 ⟨hi0,hi1,hu⟩
  dsimp only at hi0 hi1 hu ⊢
  subst hu
  obtain ⟨i,rfl⟩:=Int.eq_ofNat_of_zero_le hi0
  simp only [Int.toNat_natCast]
  refine ⟨by trivial,fun h3=>?_,fun h3 V5 l5=>?_⟩
  ·have h3:i<n:=by simpa using h3
   refine (h1.le l4).rd i rfl (by omega) ?_
   have hd:=(aH x).get (i:=i) (by omega)
   simp (disch:=omega) only [aB]
   refine ⟨by omega,(_,_),?_,by (try dsimp only);and_intros<;>trivial,?_⟩
   ·(try dsimp only);omega
   ·(try dsimp only)
    refine ⟨by omega,by omega,?_⟩
    have hi2:((i:Int)+1).toNat=i+1:=by omega
    rw [hi2,aw _ _ (by omega)]
    have hi:i=0\/i=1:=by omega
    rcases hi with rfl|rfl
    ·simp (disch:=omega) only [aO]
     have e1:(min ((32:Int)*((0:Nat):Int)).toNat IntKind.u64.bits)=0:=by decide
     rw [e1]
     simp (disch:=omega) only [aO,Int.pow_zero,Int.mul_one,List.take_zero,eF,Nat.pow_zero,Nat.one_mul,Nat.zero_add]
     exact Rz _ hd
    ·have e1:(min ((32:Int)*((1:Nat):Int)).toNat IntKind.u64.bits)=32:=by decide
     have h0:0<(ag x).length:=by omega
     have hd0:=(aH x).get (i:=0) h0
     have e2:(ag x).take 1=[(ag x)[0]]:=by rw [List.take_succ_eq_append_getElem h0];rfl
     have e3:((2:Int)^32)=4294967296:=by decide
     rw [e1,e2,e3]
     simp (disch:=omega) only [aO]
     simp only [bq,eF,Nat.mul_zero,Nat.add_zero]
     rw [Kj _ _ hd hd0]
     omega
  ·have h3:i=n:=by simp at h3;omega
   subst h3
   rw [ao (by omega),ae]
theorem iQ {V:View}{p:OA}{n c:Nat}{ds:List Nat}(h:RD V p n c ds)(hm:ds.length<=1099511627776) :
  ab prog 216 #[.slice p n c] V fun r V'=>r=.int .i64 (bM (val ds):Int):=by
 have hdl:=bh h.cZ
 refine D4 p n c V _ fun V1 l1=>(aV (h.le l1) (by omega)).mono ?_
 rintro r V2 l2 ⟨n,rfl,h1⟩
 rw [aN h.cZ] at h1
 generalize val ds=x at *
 have hl:=h1.len
 refine ⟨_,_,_,rfl,fun h0 V3 l3=>?_,fun h0=>?_⟩
 ·have:ag x=[]:=List.length_eq_zero_iff.1 (by simp at h0;omega)
  have:=bg.1 this
  subst this;rfl
 ·have h0:0<n:=by simp at h0;omega
  simp (disch:=omega) only [aB]
  refine h1.rd (n-1) (by omega) (by omega) fun V4 l4=>(gi _ ((aH x).get (by omega))).mono ?_
  rintro r V5 l5 rfl
  refine ⟨_,rfl,fun V6 l6=>?_⟩
  have hd:=(aH x).get (i:=n-1) (by omega)
  have hnz:(ag x)[n-1]≠0:=by
   have:=(gZ x).last (by omega)
   simpa [hl] using this
  have hb:bM (ag x)[n-1]<=32:=jl.2 (by omega)
  simp (disch:=omega) only [aB]
  have key:bM x=32*(n-1)+bM (ag x)[n-1]:=by
   have e:=gJ (ag x) (n-1) (by omega)
   rw [ae,List.drop_of_length_le (by omega)] at e
   simp only [eF,Nat.mul_zero,Nat.add_zero] at e
   have hlt:=eL ((aH x).take (n-1))
   rw [List.length_take,Nat.min_eq_left (by omega)] at hlt
   have e32:(4294967296:Nat)^(n-1)=2^(32*(n-1)):=by rw [Nat.pow_mul]
   rw [e32] at e hlt
   generalize (ag x)[n-1]=d at *
   have g0:=pN d
   have g1:=pK hnz
   have hbp:0<bM d:=by unfold bM;rw [if_neg hnz];omega
   refine rN ?_ (.inr ?_)
   ·rw [Nat.pow_add]
    have:2^(32*(n-1))*(d+1)<=2^(32*(n-1))*2^bM d:=Nat.mul_le_mul_left _ g0
    rw [Nat.mul_add,Nat.mul_one] at this
    omega
   ·rw [show 32*(n-1)+bM d-1=32*(n-1)+(bM d-1) from by omega,Nat.pow_add]
    have:2^(32*(n-1))*2^(bM d-1)<=2^(32*(n-1))*d:=Nat.mul_le_mul_left _ g1
    omega
  rw [key]
  congr 1
  omega
theorem Dl {E S c t x y e Y B D:Nat}(h:E+B*D*c=S+B*x*Y)(ht:t=c+x*y+e) :
  E+B*D*(t%4294967296)+B*D*4294967296*(t / 4294967296)=S+B*D*e+B*x*(Y+D*y):=by
 have h1:B*D*(t%4294967296)+B*D*4294967296*(t / 4294967296)=B*D*t:=by
  rw [Nat.mul_assoc (B*D),←Nat.mul_add,Nat.mod_add_div]
 rw [Nat.add_assoc,h1,ht]
 grind
theorem gx {V:View}{p q:OA}{n c m e:Nat}{xa xb:List Nat}(ha:RD V p n c xa)(hb:RD V q m e xb)(hm:xa.length+xb.length<=1099511627776) :
  ab prog 209 #[.slice p n c,.slice q m e] V fun r V'=>∃p' n' c',r=.slice p' n' c'/\RN V' p' n' c' (val xa*val xb):=by
 have la:=bh ha.cZ
 have lb:=bh hb.cZ
 refine F3 p n c q m e V _ fun V1 l1=>(aV (ha.le l1) (by omega)).mono ?_
 rintro r V2 l2 ⟨n,rfl,hx⟩
 rw [aN ha.cZ] at hx
 refine ⟨_,_,_,rfl,fun V3 l3=>(aV (hb.le (l1.trans (l2.trans l3))) (by omega)).mono ?_⟩
 rintro r V4 l4 ⟨m,rfl,hy⟩
 rw [aN hb.cZ] at hy
 replace hx:=hx.le (l3.trans l4)
 have hlx:=hx.len
 have zT:=hy.len
 have QN:val xa=val (ag (val xa)):=(ae _).symm
 have XM:val xb=val (ag (val xb)):=(ae _).symm
 rw [QN,XM]
 clear QN XM
 generalize ag (val xa)=xs at *
 generalize ag (val xb)=ys at *
 refine ⟨_,_,_,rfl,?_⟩
 simp (disch:=omega) only [aB,cN]
 have hnm:((n:Int)+m).toNat=n+m:=by omega
 rw [hnm]
 refine ⟨by omega,by omega,by omega,fun z V'=>0<=z.1/\z.1<=n/\∃es:List Nat,z.2=aG es/\es.length=n+m/\bN es /\
  val (es.take (z.1.toNat+m))=val (xs.take z.1.toNat)*val ys,fun z=>n-z.1.toNat,⟨(0,aG (List.replicate (n+m) 0)),by (try dsimp only);and_intros<;>trivial,by (try dsimp only);omega,by (try dsimp only);omega,_,rfl,by simp,bN.rep _,by simp [uf,List.take_replicate]⟩,?_⟩
 rintro ⟨i,vs⟩ V5 l5 ⟨hi0,hi1,es,rfl,hes,hde,hv⟩
 dsimp only at hi0 hi1 hv ⊢
 obtain ⟨i,rfl⟩:=Int.eq_ofNat_of_zero_le hi0
 simp only [Int.toNat_natCast] at hv
 refine ⟨by trivial,fun h3=>?_,fun h3=>?_⟩
 ·have h3:i<n:=by simpa using h3
  refine (hx.le l5).rd i rfl (by omega) ?_
  have xj:=hx.cZ.get (i:=i) (by omega)
  refine ⟨fun z V'=>0<=z.1/\z.1<=4294967295/\0<=z.2.1/\z.2.1<=m/\∃fs:List Nat,z.2.2=aG fs/\fs.length=n+m/\bN fs/\fs.drop (i+z.2.1.toNat)=es.drop (i+z.2.1.toNat) /\
   val (fs.take (i+z.2.1.toNat))+4294967296^(i+z.2.1.toNat)*z.1.toNat=val (es.take (i+z.2.1.toNat))+4294967296^i*xs[i]*val (ys.take z.2.1.toNat),fun z=>m-z.2.1.toNat,
   ⟨(0,0,aG es),by (try dsimp only);and_intros<;>trivial,by (try dsimp only);omega,by (try dsimp only);omega,by (try dsimp only);omega,by (try dsimp only);omega,es,rfl,hes,hde,rfl,by simp⟩,?_⟩
  rintro ⟨cy,k,vs⟩ V6 l6 ⟨hc0,hc1,hk0,hk1,fs,rfl,hfs,hdf,hdr,hw⟩
  dsimp only at hc0 hc1 hk0 hk1 hdr hw ⊢
  obtain ⟨k,rfl⟩:=Int.eq_ofNat_of_zero_le hk0
  obtain ⟨cy,rfl⟩:=Int.eq_ofNat_of_zero_le hc0
  simp only [Int.toNat_natCast] at hdr hw
  refine ⟨by trivial,fun h4=>?_,fun h4=>?_⟩
  ·have h4:k<m:=by simpa using h4
   refine (hy.le (l5.trans l6)).rd k rfl (by omega) ?_
   have hdy:=hy.cZ.get (i:=k) (by omega)
   have Uk:=hdf.get (i:=i+k) (by omega)
   have hef:fs[i+k]'(by omega)=es[i+k]'(by omega):=by
    have h1:fs[i+k]?=es[i+k]?:=by
     have:=congrArg (fun l=>l[0]?) hdr
     simpa [List.getElem?_drop] using this
    rw [List.getElem?_eq_getElem (by omega),List.getElem?_eq_getElem (by omega)] at h1
    exact Option.some.inj h1
   simp (disch:=omega) only [aB]
   have hik:((i:Int)+k).toNat=i+k:=by omega
   rw [hik]
   refine ⟨⟨by omega,by omega⟩,((fs[i+k]'(by omega):Nat):Int),by rw [Nat.zero_add,Nat.mul_one];exact fU (by omega),⟨by omega,by omega⟩,by simp;omega,by omega,?_⟩
   have hxy:xs[i]*ys[k]<=4294967295*4294967295:=Nat.mul_le_mul (by omega) (by omega)
   have OM:(xs[i]:Int)*(ys[k]:Int)=((xs[i]*ys[k]:Nat):Int):=by simp
   obtain ⟨t,ht⟩:∃t:Nat,t=cy+xs[i]*ys[k]+fs[i+k]'(by omega):=⟨_,rfl⟩
   rw [Nat.pow_add] at hw
   have hstep:=Dl hw ht
   have e1:u64.wrap ((cy:Int)+u64.wrap (u64.wrap (u64.wrap (xs[i]:Int)*u64.wrap (ys[k]:Int))+u64.wrap ((fs[i+k]'(by omega):Nat):Int)))=(t:Int):=by
    clear hstep
    generalize xs[i]*ys[k]=pq at *
    rw [aO (x:=(xs[i]:Int)) (by omega),aO (x:=(ys[k]:Int)) (by omega),OM,aO (x:=((pq:Nat):Int)) (by omega)]
    simp (disch:=omega) only [aO]
    omega
   rw [e1,iB,lF]
   refine ⟨(_,_,_),?_,by (try dsimp only);and_intros<;>trivial,?_⟩
   ·(try dsimp only);omega
   ·(try dsimp only)
    have hk2:((k:Int)+1).toNat=k+1:=by omega
    refine ⟨by omega,by omega,by omega,by omega,fs.set (i+k) (t%4294967296),?_,by simpa using hfs,hdf.set _ _ (by omega),?_,?_⟩
    ·rw [←bA];simp
    ·rw [hk2,List.drop_set_of_lt (by omega)]
     have:=congrArg (List.drop 1) hdr
     simpa [List.drop_drop,Nat.add_comm,Nat.add_assoc,Nat.add_left_comm] using this
    ·rw [hk2,show i+(k+1)=i+k+1 from by omega,aK _ _ _ (by omega),aw es (i+k) (by omega),aw ys k (by omega),←hef,Nat.pow_succ]
     have e2:((t:Int) / 4294967296).toNat=t / 4294967296:=by omega
     rw [e2,Nat.pow_add,hstep]
  ·have h4:k=m:=by simp at h4;omega
   subst h4
   simp (disch:=omega) only [aB]
   have hik:((i:Int)+k).toNat=i+k:=by omega
   rw [hik]
   refine ⟨⟨by omega,by omega⟩,by simp;omega,(_,_),?_,by (try dsimp only);and_intros<;>trivial,?_⟩
   ·(try dsimp only);omega
   ·(try dsimp only)
    have hi2:((i:Int)+1).toNat=i+1:=by omega
    refine ⟨by omega,by omega,fs.set (i+k) cy,?_,by simpa using hfs,hdf.set _ _ (by omega),?_⟩
    ·rw [←bA,qf (by omega)];simp
    ·rw [hi2,show i+1+k=i+k+1 from by omega,aK _ _ _ (by omega),hw,hv,aw xs i (by omega),ao (ds:=ys) (by omega)]
     grind
 ·have h3:i=n:=by simp at h3;omega
  subst h3
  intro V6 l6 bk hb'
  refine (aV (RD.bG hb' hde (n:=i+m) (c:=i+m) (by omega) (Nat.le_refl _)) (by omega)).mono ?_
  rintro r V7 l7 ⟨k,rfl,h4⟩
  refine ⟨_,_,_,rfl,fun _ V8 l8=>⟨_,_,_,rfl,?_⟩⟩
  rw [aN hde] at h4
  rw [ao (by omega),ao (by omega)] at hv
  rw [hv] at h4
  exact h4.le l8
theorem wb {x A d q r rest B W:Nat}(hA:A=d*B+rest)(h:d*q+r=rest*W+x):x+W*A=d*(q+W*B)+r:=by
 subst hA;grind
theorem Cu {V:View}{p:OA}{n c:Nat}{xs:List Nat}(hx:RD V p n c xs)(hm:xs.length<=1099511627776)(d:Nat)(hd0:d≠0)(hd:d<4294967296) :
  ab prog 231 #[.slice p n c,.int .u32 (d:Int)] V fun r V'=>∃p' n' c',r=.tuple #[.slice p' n' c',.int .u32 ((val xs%d:Nat):Int)]/\RN V' p' n' c' (val xs / d):=by
 have hlx:=hx.len
 refine BN p n c d V _ ⟨by omega,by omega,by omega,?_⟩
 simp (disch:=omega) only [aB,aO,Int.toNat_natCast,cN]
 refine ⟨fun z V'=>0<=z.1/\z.1<d/\-1<=z.2.1/\z.2.1<n/\∃es:List Nat,z.2.2=aG es/\es.length=n/\bN es /\
   val (xs.drop (z.2.1+1).toNat)=d*val (es.drop (z.2.1+1).toNat)+z.1.toNat,fun z=>(z.2.1+1).toNat,
   ⟨(0,(n:Int)-1,aG (List.replicate n 0)),by (try dsimp only);and_intros<;>trivial,by (try dsimp only);omega,by (try dsimp only);omega,by (try dsimp only);omega,by (try dsimp only);omega,_,rfl,by simp,bN.rep _,?_⟩,?_⟩
 ·(try dsimp only)
  rw [List.drop_of_length_le (by omega),List.drop_of_length_le (by simp)];rfl
 rintro ⟨rest,i,vs⟩ V2 l2 ⟨hr0,hr1,hi0,hi1,es,rfl,hes,hde,hv⟩
 dsimp only at hr0 hr1 hi0 hi1 hv ⊢
 obtain ⟨rest,rfl⟩:=Int.eq_ofNat_of_zero_le hr0
 refine ⟨by trivial,fun h3=>?_,fun h3=>?_⟩
 ·have h3:0<=i:=by simpa using h3
  obtain ⟨i,rfl⟩:=Int.eq_ofNat_of_zero_le h3
  have hi2:((i:Int)+1).toNat=i+1:=by omega
  rw [hi2] at hv
  simp only [Int.toNat_natCast] at hv
  refine ⟨by omega,(hx.le l2).rd i rfl (by omega) ?_⟩
  have xj:=hx.cZ.get (i:=i) (by omega)
  have e1:bz .or .u64 (u64.wrap ((rest:Int)*2^32)) (u64.wrap ((xs[i]:Nat):Int))=((rest*4294967296+xs[i]:Nat):Int):=by
   have e3:((2:Int)^32)=4294967296:=by decide
   rw [e3,aO (by omega),aO (by omega),Dr _ _ (by omega) xj];omega
  rw [e1]
  have e2:((rest*4294967296+xs[i]:Nat):Int).tdiv (d:Int)=(((rest*4294967296+xs[i]) / d:Nat):Int):=by
   rw [Int.tdiv_eq_ediv_of_nonneg (by omega)];omega
  have e4:((rest*4294967296+xs[i]:Nat):Int).tmod (d:Int)=(((rest*4294967296+xs[i])%d:Nat):Int):=by
   rw [Int.tmod_eq_emod_of_nonneg (by omega)];omega
  rw [e2,e4]
  have hq:(rest*4294967296+xs[i]) / d<4294967296:=by
   rw [Nat.div_lt_iff_lt_mul (by omega)]
   have:rest+1<=d:=by omega
   have:=Nat.mul_le_mul_right 4294967296 this
   rw [Nat.mul_comm 4294967296 d]
   omega
  have hr:(rest*4294967296+xs[i])%d<d:=Nat.mod_lt _ (by omega)
  have E_:=Nat.div_add_mod (rest*4294967296+xs[i]) d
  generalize (rest*4294967296+xs[i]) / d=q at *
  generalize (rest*4294967296+xs[i])%d=r at *
  simp (disch:=omega) only [aO,qf,aB]
  refine ⟨by omega,⟨by omega,by omega⟩,by simp;omega,by omega,?_⟩
  refine ⟨((r:Int),(i:Int)-1,aG (es.set i q)),?_,?_,?_⟩
  ·(try dsimp only);omega
  ·(try dsimp only);and_intros<;>first|trivial|(rw [←bA];simp)
  ·(try dsimp only)
   refine ⟨by omega,by omega,by omega,by omega,_,rfl,by simpa using hes,hde.set _ _ (by omega),?_⟩
   have hi3:((i:Int)-1+1).toNat=i:=by omega
   rw [hi3,List.drop_eq_getElem_cons (by omega),List.drop_eq_getElem_cons (l:=es.set i q) (by simp;omega),List.getElem_set_self,List.drop_set_of_lt (by omega)]
   have h9:xs[i]+4294967296*val (List.drop (i+1) xs)=d*(q+4294967296*val (List.drop (i+1) es))+r:=wb hv E_
   rw [bq,bq,Int.toNat_natCast]
   exact h9
 ·have h3:i=-1:=by simp at h3;omega
  subst h3
  simp only [Int.toNat_natCast] at hv
  have hv:val xs=d*val es+rest:=by simpa using hv
  intro V3 l3 bk hb
  refine (aV (RD.bG hb hde (n:=n) (c:=n) (by omega) (Nat.le_refl _)) (by omega)).mono ?_
  rintro r V4 l4 ⟨k,rfl,h4⟩
  refine ⟨_,_,_,rfl,fun _ V5 l5=>?_⟩
  have e1:val xs / d=val es:=by rw [hv,Nat.mul_add_div (by omega),Nat.div_eq_of_lt (by omega),Nat.add_zero]
  have e2:val xs%d=rest:=by rw [hv,Nat.mul_add_mod,Nat.mod_eq_of_lt (by omega)]
  rw [qf (by omega),e1,e2]
  rw [aN hde] at h4
  exact ⟨_,_,_,rfl,h4.le l5⟩
theorem Fw (a b:Nat)(ha:a<4294967296)(hb:b<4294967296):bz .or .u32 (a:Int) (b:Int)=((a ||| b:Nat):Int):=by
 rw [bz,iB]
 have h2:(BitVec.ofInt IntKind.u32.bits ((a:Nat):Int) ||| BitVec.ofInt IntKind.u32.bits (b:Int)).toNat=a ||| b:=by
  show (BitVec.ofInt 32 ((a:Nat):Int) ||| BitVec.ofInt 32 (b:Int)).toNat=_
  rw [BitVec.ofInt_natCast,BitVec.ofInt_natCast,BitVec.toNat_or,BitVec.toNat_ofNat,BitVec.toNat_ofNat,Nat.mod_eq_of_lt (by omega),Nat.mod_eq_of_lt (by omega)]
 have h3:a ||| b<2^32:=Nat.or_lt_two_pow (by omega) (by omega)
 rw [h2]
 omega
theorem O1 {c m r:Nat}(h:c<2^r):c ||| m*2^r=c+m*2^r:=by
 rw [Nat.or_comm,←Nat.shiftLeft_eq,←Nat.shiftLeft_add_eq_or_of_lt h,Nat.add_comm]
theorem DN {d r c:Nat}(hd:d<4294967296)(hr:r<32)(hc:c<2^r) :
  c ||| (d*2^r%4294967296)=c+d*2^r%4294967296/\c+d*2^r%4294967296<4294967296/\d*2^r / 4294967296<2^r/\d*2^r<18446744073709551616:=by
 have e:4294967296=2^(32-r)*2^r:=by rw [←Nat.pow_add,Nat.sub_add_cancel (by omega)]
 have h1:d*2^r%4294967296=(d%2^(32-r))*2^r:=by
  rw [e,Nat.mul_mod_mul_right]
 have h2:d%2^(32-r)+1<=2^(32-r):=Nat.mod_lt _ (Nat.two_pow_pos _)
 have h3:=Nat.mul_le_mul_right (2^r) h2
 have h4:2^r<=2^31:=Nat.pow_le_pow_right (by omega) (by omega)
 have h5:d*2^r<4294967296*2^r:=Nat.mul_lt_mul_of_pos_right hd (Nat.two_pow_pos _)
 refine ⟨by rw [h1,O1 hc],?_,?_,by omega⟩
 ·rw [h1]
  rw [Nat.add_mul,Nat.one_mul] at h3
  rw [←e] at h3
  omega
 ·rw [Nat.div_lt_iff_lt_mul (by omega),Nat.mul_comm (2^r)];exact h5
theorem zz {V:View}{p:OA}{n c:Nat}{ds:List Nat}(h:RD V p n c ds)(hm:ds.length<=1099511627776)(k:Nat)(hk:k<=1048576) :
  ab prog 235 #[.slice p n c,.int .u64 (k:Int)] V fun r V'=>∃p' n' c',r=.slice p' n' c'/\RN V' p' n' c' (val ds*2^k)/\(val ds=0\/c'=(ag (val ds)).length+k / 32+1):=by
 have hdl:=bh h.cZ
 refine F4 p n c k V _ fun V1 l1=>(aV (h.le l1) (by omega)).mono ?_
 rintro r V2 l2 ⟨n,rfl,hx⟩
 rw [aN h.cZ] at hx
 generalize hxv:val ds=x at *
 have hl:=hx.len
 refine ⟨_,_,_,rfl,fun h0 V3 l3=>?_,fun h0=>?_⟩
 ·have:ag x=[]:=List.length_eq_zero_iff.1 (by simp at h0;omega)
  have:=bg.1 this
  subst this
  rw [Nat.zero_mul]
  exact ⟨_,_,_,rfl,RD.nil,.inl rfl⟩
 ·have h0:0<n:=by simp at h0;omega
  have e1:b_ (k:Int) 1048576=k:=by unfold b_;rw [if_neg (by omega)]
  have e2:(k:Int).tdiv 32=((k / 32:Nat):Int):=by rw [Int.tdiv_eq_ediv_of_nonneg (by omega)];omega
  have e3:(k:Int).tmod 32=((k%32:Nat):Int):=by rw [Int.tmod_eq_emod_of_nonneg (by omega)];omega
  rw [e1,e2,e3]
  have hk2:x*2^k=4294967296^(k / 32)*x*2^(k%32):=by
   have:2^k=4294967296^(k / 32)*2^(k%32):=by
    rw [show (4294967296:Nat)=2^32 from rfl,←Nat.pow_mul,←Nat.pow_add,Nat.div_add_mod]
   rw [this];grind
  rw [hk2]
  generalize hw:k / 32=w at *
  have hrl:k%32<32:=Nat.mod_lt _ (by omega)
  have hwl:w<=32768:=by omega
  generalize k%32=r at *
  clear e1 e2 e3
  simp (disch:=omega) only [aB,aO,cN]
  have hnw:((n:Int)+w+1).toNat=n+w+1:=by omega
  rw [hnw]
  refine ⟨by omega,by omega,by omega,by omega,by omega,fun z V'=>0<=z.1/\z.1<=n/\∃es:List Nat,z.2=aG es/\es.length=n+w+1/\bN es/\(∀c,es[z.1.toNat+w]?=some c->c<2^r) /\
   val (es.take (z.1.toNat+w+1))=4294967296^w*val ((ag x).take z.1.toNat)*2^r,fun z=>n-z.1.toNat,
   ⟨(0,aG (List.replicate (n+w+1) 0)),by (try dsimp only);and_intros<;>trivial,by (try dsimp only);omega,by (try dsimp only);omega,_,rfl,by simp,bN.rep _,?_,?_⟩,?_⟩
  ·intro c hc
   rw [List.getElem?_replicate] at hc
   split at hc
   ·cases hc;exact Nat.two_pow_pos r
   ·cases hc
  ·simp [List.take_replicate,uf]
  rintro ⟨i,vs⟩ V4 l4 ⟨hi0,hi1,es,rfl,hes,hde,hc,hv⟩
  dsimp only at hi0 hi1 hc hv ⊢
  obtain ⟨i,rfl⟩:=Int.eq_ofNat_of_zero_le hi0
  simp only [Int.toNat_natCast] at hc hv
  refine ⟨by trivial,fun h3=>?_,fun h3=>?_⟩
  ·have h3:i<n:=by simpa using h3
   refine (hx.le l4).rd i rfl (by omega) ?_
   have xj:=(aH x).get (i:=i) (by omega)
   have hce:=hc (es[i+w]'(by omega)) (List.getElem?_eq_getElem _)
   obtain ⟨g1,g2,g3,g4⟩:=DN xj hrl hce
   have hmin:(min ((r:Nat):Int).toNat IntKind.u64.bits)=r:=by
    show min _ 64=r
    omega
   have hp:((2:Int)^r)=((2^r:Nat):Int):=by simp
   rw [hmin,hp]
   have hmul:(((ag x)[i]:Nat):Int)*((2^r:Nat):Int)=(((ag x)[i]*2^r:Nat):Int):=by simp
   simp (disch:=omega) only [aB]
   rw [aO (x:=(((ag x)[i]:Nat):Int)) (by omega),hmul,aO (by omega),iB,lF]
   have hiw:((i:Int)+w).toNat=i+w:=by omega
   have Ut:((i:Int)+w+1).toNat=i+w+1:=by omega
   rw [hiw,Ut]
   refine ⟨by omega,⟨by omega,by omega⟩,((es[i+w]'(by omega):Nat):Int),by rw [Nat.zero_add,Nat.mul_one];exact fU (by omega),⟨by omega,by omega⟩,by simp;omega,by omega,⟨by omega,by omega⟩,by simp;omega,?_⟩
   have ec:(((ag x)[i]*2^r:Nat):Int)%4294967296=(((ag x)[i]*2^r%4294967296:Nat):Int):=by omega
   have ed:(((ag x)[i]*2^r:Nat):Int) / 4294967296=(((ag x)[i]*2^r / 4294967296:Nat):Int):=by omega
   rw [ec,ed,Fw _ _ (by omega) (by omega),g1]
   have E_:=Nat.mod_add_div ((ag x)[i]*2^r) 4294967296
   have hd2:(ag x)[i]*2^r / 4294967296<4294967296:=by omega
   have hdr:val (List.take (i+1) (ag x))=val (List.take i (ag x))+4294967296^i*(ag x)[i]:=aw _ _ (by omega)
   have Ot:val (es.take (i+w+1))=val (es.take (i+w))+4294967296^(i+w)*es[i+w]'(by omega):=aw _ _ (by omega)
   generalize (ag x)[i]*2^r%4294967296=lo at *
   generalize hhi:(ag x)[i]*2^r / 4294967296=hi at *
   rw [qf (by omega)]
   refine ⟨((i:Int)+1,aG ((es.set (i+w) (es[i+w]'(by omega)+lo)).set (i+w+1) hi)),?_,?_,?_⟩
   ·(try dsimp only);omega
   ·(try dsimp only);and_intros<;>first|trivial|(rw [←bA,←bA];simp)
   ·(try dsimp only)
    have hi2:((i:Int)+1).toNat=i+1:=by omega
    refine ⟨by omega,by omega,_,rfl,by simpa using hes,(hde.set _ _ (by omega)).set _ _ (by omega),?_,?_⟩
    ·intro c hc'
     rw [hi2,show i+1+w=i+w+1 from by omega,List.getElem?_set_self (by simp;omega)] at hc'
     cases hc';exact g3
    ·rw [hi2,show i+1+w+1=i+w+1+1 from by omega,aK _ _ _ (by simp;omega),aK _ _ _ (by omega),hdr]
     rw [Ot] at hv
     have hA:4294967296^(i+w+1)*hi=4294967296^(i+w)*(4294967296*hi):=by rw [Nat.pow_succ];grind
     rw [hA,Nat.mul_add,←Nat.add_assoc,hv,Nat.add_assoc,←Nat.mul_add,E_,Nat.pow_add]
     grind
  ·have h3:i=n:=by simp at h3;omega
   subst h3
   intro V5 l5 bk hb
   refine (aV (RD.bG hb hde (n:=i+w+1) (c:=i+w+1) (by omega) (Nat.le_refl _)) (by omega)).mono ?_
   rintro r' V6 l6 ⟨k',rfl,h4⟩
   refine ⟨_,_,_,rfl,fun _ V7 l7=>⟨_,_,_,rfl,?_,.inr (by omega)⟩⟩
   rw [ao (by omega),ao (by omega),ae] at hv
   rw [aN hde,hv] at h4
   exact h4.le l7
theorem DO {d Y r:Nat}(hd:d<4294967296)(hr:r<32) :
  (d+4294967296*Y) / 2^r=(d+4294967296*(Y%4294967296)) / 2^r%4294967296+4294967296*(Y / 2^r):=by
 have e:4294967296=2^r*2^(32-r):=by rw [←Nat.pow_add,Nat.add_sub_cancel' (by omega)]
 have hp:=Nat.two_pow_pos r
 have hq:=Nat.two_pow_pos (32-r)
 generalize ha:2^r=a at *
 generalize hb:2^(32-r)=b at *
 have h1:∀Z,(d+4294967296*Z) / a=d / a+b*Z:=by
  intro Z
  rw [e,Nat.mul_assoc,Nat.add_mul_div_left _ _ hp]
 rw [h1,h1]
 have hda:d / a<b:=by
  rw [Nat.div_lt_iff_lt_mul hp,Nat.mul_comm,←e];exact hd
 have h2:b*(Y%4294967296)%4294967296=b*(Y%a):=by
  rw [e,Nat.mul_comm a b,Nat.mul_mod_mul_left,Nat.mod_mul_left_mod]
 have h3:b*(Y%a)+b<=4294967296:=by
  have:Y%a+1<=a:=Nat.mod_lt _ hp
  have:=Nat.mul_le_mul_left b this
  rw [Nat.mul_add,Nat.mul_one,Nat.mul_comm b a,←e] at this
  exact this
 have h4:(d / a+b*(Y%4294967296))%4294967296=d / a+b*(Y%a):=by
  rw [Nat.add_mod,h2,Nat.mod_eq_of_lt (a:=d / a) (by omega),Nat.mod_eq_of_lt (by omega)]
 rw [h4]
 have h5:=Nat.mod_add_div Y a
 have h6:b*Y=b*(Y%a)+4294967296*(Y / a):=by
  conv=>lhs;rw [←h5]
  rw [Nat.mul_add,←Nat.mul_assoc,Nat.mul_comm b a,←e]
 rw [h6];omega
theorem qg {xs:List Nat}(h:bN xs)(i:Nat):val (xs.drop i)%4294967296=(xs[i]?).getD 0:=by
 rcases Nat.lt_or_ge i xs.length with hi|hi
 ·rw [List.drop_eq_getElem_cons hi,bq,List.getElem?_eq_getElem hi,Option.getD_some,Nat.add_mul_mod_self_left,Nat.mod_eq_of_lt (h.get hi)]
 ·rw [List.drop_of_length_le hi,List.getElem?_eq_none hi];rfl
theorem HD {V:View}{p:OA}{n c:Nat}{ds:List Nat}(h:RD V p n c ds)(hm:ds.length<=1099511627776)(k:Nat)(hk:k<18446744073709551616) :
  ab prog 236 #[.slice p n c,.int .u64 (k:Int)] V fun r V'=>∃p' n' c',r=.slice p' n' c'/\RN V' p' n' c' (val ds / 2^k):=by
 have hdl:=bh h.cZ
 refine F5 p n c k V _ fun V1 l1=>(aV (h.le l1) (by omega)).mono ?_
 rintro r V2 l2 ⟨n,rfl,hx⟩
 rw [aN h.cZ] at hx
 generalize val ds=x at *
 have hl:=hx.len
 have e2:(k:Int).tdiv 32=((k / 32:Nat):Int):=by rw [Int.tdiv_eq_ediv_of_nonneg (by omega)];omega
 have e3:(k:Int).tmod 32=((k%32:Nat):Int):=by rw [Int.tmod_eq_emod_of_nonneg (by omega)];omega
 refine ⟨_,_,_,rfl,?_⟩
 rw [e2,e3]
 have hk2:x / 2^k=x / 4294967296^(k / 32) / 2^(k%32):=by
  rw [Nat.div_div_eq_div_mul,show (4294967296:Nat)=2^32 from rfl,←Nat.pow_mul,←Nat.pow_add,Nat.div_add_mod]
 rw [hk2]
 have hwl:k / 32<576460752303423488:=by omega
 generalize k / 32=w at *
 have hrl:k%32<32:=Nat.mod_lt _ (by omega)
 generalize k%32=r at *
 clear e2 e3 hk2
 refine ⟨by omega,fun h0 V3 l3=>?_,fun h0=>?_⟩
 ·have h0:n<=w:=by
   rw [aO (by omega),aO (by omega)] at h0;simp at h0;omega
  have:x / 4294967296^w=0:=Nat.div_eq_of_lt (Nat.lt_of_lt_of_le (aI.1 (Nat.le_refl _)) (Nat.pow_le_pow_right (by omega) (by omega)))
  rw [this,Nat.zero_div]
  exact ⟨_,_,_,rfl,RD.nil⟩
 ·have h0:w<n:=by
   rw [aO (by omega),aO (by omega)] at h0;simp at h0;omega
  simp (disch:=omega) only [aB,aO,cN]
  have hnw:((n:Int)-w).toNat=n-w:=by omega
  rw [hnw]
  have hxw:x / 4294967296^w=val ((ag x).drop w):=by
   have e:val (ag x)=val ((ag x).take w++(ag x).drop w):=by rw [List.take_append_drop]
   have hlt:=eL ((aH x).take w)
   rw [dD,ae] at e
   rw [List.length_take,Nat.min_eq_left (by omega)] at e hlt
   have g:∀y,y=val ((ag x).take w)+4294967296^w*val ((ag x).drop w)->y / 4294967296^w=val ((ag x).drop w):=by
    intro y hy
    rw [hy,Nat.add_mul_div_left _ _ (Nat.pow_pos (by omega)),Nat.div_eq_of_lt hlt,Nat.zero_add]
   exact g x e
  rw [hxw]
  refine ⟨by omega,by omega,by omega,by omega,by omega,fun z V'=>0<=z.1/\z.1<=(n-w:Nat)/\∃es:List Nat,z.2=aG es/\es.length=n-w/\bN es /\
   val (es.take z.1.toNat)+4294967296^z.1.toNat*(val ((ag x).drop (w+z.1.toNat)) / 2^r)=val ((ag x).drop w) / 2^r,fun z=>(n-w)-z.1.toNat,
   ⟨(0,aG (List.replicate (n-w) 0)),by (try dsimp only);and_intros<;>trivial,by (try dsimp only);omega,by (try dsimp only);omega,_,rfl,by simp,bN.rep _,by simp⟩,?_⟩
  rintro ⟨i,vs⟩ V4 l4 ⟨hi0,hi1,es,rfl,hes,hde,hv⟩
  dsimp only at hi0 hi1 hv ⊢
  obtain ⟨i,rfl⟩:=Int.eq_ofNat_of_zero_le hi0
  simp only [Int.toNat_natCast] at hv
  refine ⟨by trivial,fun h3=>?_,fun h3=>?_⟩
  ·have h3:i<n-w:=by simpa using h3
   simp (disch:=omega) only [aB]
   refine (hx.le l4).rd (w+i) (by omega) (by omega) ?_
   have xj:=(aH x).get (i:=w+i) (by omega)
   have hst:=DO (Y:=val ((ag x).drop (w+i+1))) xj hrl
   rw [qg (aH x)] at hst
   have hmin:(min ((r:Nat):Int).toNat IntKind.u64.bits)=r:=by
    show min _ 64=r
    omega
   have hdrop:val ((ag x).drop (w+i))=(ag x)[w+i]+4294967296*val ((ag x).drop (w+i+1)):=by
    rw [List.drop_eq_getElem_cons (by omega),bq]
   rw [hdrop] at hv
   rw [hst] at hv
   have XX:∀D:Nat,D=((ag x)[w+i]+4294967296*((ag x)[w+i+1]?).getD 0) / 2^r%4294967296 ->
     ∃es':List Nat,(aG es).set (0+i*1) (.int .u32 (D:Int))=aG es'/\es'.length=n-w/\bN es' /\
     val (es'.take (i+1))+4294967296^(i+1)*(val ((ag x).drop (w+(i+1))) / 2^r)=val ((ag x).drop w) / 2^r:=by
    intro D hD
    refine ⟨es.set i D,by rw [←bA];simp,by simpa using hes,hde.set _ _ (by omega),?_⟩
    rw [aK _ _ _ (by omega),←hv,hD,Nat.pow_succ,Nat.mul_add,Nat.add_assoc,Nat.mul_assoc,Nat.add_assoc w i 1]
   have hi2:((i:Int)+1).toNat=i+1:=by omega
   refine ⟨fun h4=>?_,fun h4=>?_⟩
   ·have h4:w+i+1<n:=by simp at h4;omega
    refine (hx.le l4).rd (w+i+1) (by omega) (by omega) ?_
    have hdy:=(aH x).get (i:=w+i+1) (by omega)
    have e4:bz .or .u64 (u64.wrap (((ag x)[w+i]:Nat):Int)) (u64.wrap (u64.wrap (((ag x)[w+i+1]:Nat):Int)*2^32))=(((ag x)[w+i]+4294967296*((ag x)[w+i+1]?).getD 0:Nat):Int):=by
     have e3:((2:Int)^32)=4294967296:=by decide
     rw [e3,aO (by omega),aO (x:=(((ag x)[w+i+1]:Nat):Int)) (by omega),aO (by omega),Kj _ _ hdy xj,List.getElem?_eq_getElem (by omega),Option.getD_some]
     omega
    rw [e4,hmin,fP,iB]
    refine ⟨by omega,by omega,⟨by omega,by omega⟩,by simp;omega,?_⟩
    obtain ⟨es',g1,g2,g3,g4⟩:=XX _ rfl
    refine ⟨((i:Int)+1,aG es'),?_,?_,?_⟩
    ·(try dsimp only);omega
    ·(try dsimp only);and_intros<;>first|trivial|(rw [←g1];simp)
    ·(try dsimp only)
     exact ⟨by omega,by omega,es',rfl,g2,g3,by rw [hi2];exact g4⟩
   ·have h4:n<=w+i+1:=by simp at h4;omega
    have e4:u64.wrap (((ag x)[w+i]:Nat):Int)=(((ag x)[w+i]+4294967296*((ag x)[w+i+1]?).getD 0:Nat):Int):=by
     rw [aO (by omega),List.getElem?_eq_none (by omega)];simp
    rw [e4,hmin,fP,iB]
    refine ⟨by omega,⟨by omega,by omega⟩,by simp;omega,?_⟩
    obtain ⟨es',g1,g2,g3,g4⟩:=XX _ rfl
    refine ⟨((i:Int)+1,aG es'),?_,?_,?_⟩
    ·(try dsimp only);omega
    ·(try dsimp only);and_intros<;>first|trivial|(rw [←g1];simp)
    ·(try dsimp only)
     exact ⟨by omega,by omega,es',rfl,g2,g3,by rw [hi2];exact g4⟩
  ·have h3:i=n-w:=by simp at h3;omega
   intro V5 l5 bk hb
   refine (aV (RD.bG hb hde (n:=n-w) (c:=n-w) (by omega) (Nat.le_refl _)) (by omega)).mono ?_
   rintro r' V6 l6 ⟨k',rfl,h4⟩
   refine ⟨_,_,_,rfl,fun _ V7 l7=>⟨_,_,_,rfl,?_⟩⟩
   rw [ao (by omega),List.drop_of_length_le (l:=ag x) (i:=w+i) (by omega)] at hv
   have hv:val es=val ((ag x).drop w) / 2^r:=by
    rw [←hv,eF,Nat.zero_div,Nat.mul_zero,Nat.add_zero]
   rw [aN hde,hv] at h4
   exact h4.le l7
end Go.Proofs.Tryz
namespace Go.dP
theorem HW {v1 v2 v' u0 u1 u2 t' B W G ρ T Y:Nat}(hY:Y=(v1*W+v2)*B+v')(hT:T=((u0*W+u1)*W+u2)*B+t')(ht:t'<B)
  (hg:G*v1+ρ=u0*W+u1)(hd:ρ*W+u2<G*v2):T<G*Y:=by
 have h1:(u0*W+u1)*W+u2+1<=G*(v1*W+v2):=by
  rw [←hg,Nat.mul_add,Nat.add_mul,←Nat.mul_assoc];omega
 have h2:=Nat.mul_le_mul_right B h1
 have h3:G*(v1*W+v2)*B<=G*Y:=by rw [hY,Nat.mul_assoc];exact Nat.mul_le_mul_left _ (Nat.le_add_right _ _)
 rw [Nat.add_mul,Nat.one_mul] at h2
 omega
theorem zQ {v1 v2 v' u0 u1 u2 t' B W G ρ T Y:Nat}(hY:Y=(v1*W+v2)*B+v')(hT:T=((u0*W+u1)*W+u2)*B+t')(hv:v'<B)(hv1:1<=v1)(hW:0<W)
  (hg:G*v1+ρ=u0*W+u1)(hd:G*v2<=ρ*W+u2)(hG:G<=W):G*Y<T+Y:=by
 have h1:G*(v1*W+v2)<=(u0*W+u1)*W+u2:=by
  rw [←hg,Nat.mul_add,Nat.add_mul,←Nat.mul_assoc];omega
 have h2:=Nat.mul_le_mul_right B h1
 have h3:G*v'<=W*v':=Nat.mul_le_mul_right _ hG
 have h4:W*v'<W*B:=Nat.mul_lt_mul_of_pos_left hv hW
 have h5:W*B<=v1*W*B:=by
  have:=Nat.mul_le_mul_right (W*B) hv1
  rw [Nat.one_mul,←Nat.mul_assoc] at this;exact this
 have h6:(v1*W+v2)*B=v1*W*B+v2*B:=Nat.add_mul _ _ _
 have h7:G*Y=G*(v1*W+v2)*B+G*v':=by rw [hY,Nat.mul_add,Nat.mul_assoc]
 rw [h7,hY,h6]
 omega
theorem zR {v1 v2 v' u0 u1 u2 t' B W T Y:Nat}(hY:Y=(v1*W+v2)*B+v')(hT:T=((u0*W+u1)*W+u2)*B+t')(hv:v'<B)(h:T<W*Y):u0*W+u1<=v1*W+v2:=by
 rcases Nat.lt_or_ge (v1*W+v2) (u0*W+u1) with hc|hc
 ·exfalso
  have h1:(v1*W+v2+1)*W<=(u0*W+u1)*W:=Nat.mul_le_mul_right _ hc
  have h2:=Nat.mul_le_mul_right B h1
  have h3:W*Y<=W*((v1*W+v2+1)*B):=by
   rw [hY,Nat.add_mul (v1*W+v2) 1 B,Nat.one_mul];exact Nat.mul_le_mul_left _ (by omega)
  have h4:W*((v1*W+v2+1)*B)=(v1*W+v2+1)*W*B:=by grind
  have h5:(u0*W+u1)*W*B<=T:=by rw [hT,Nat.add_mul ((u0*W+u1)*W) u2 B];omega
  omega
 ·exact hc
theorem JH {v1 v2 v' u0 u1 u2 t' B W G ρ T Y:Nat}(hY:Y=(v1*W+v2)*B+v')(hT:T=((u0*W+u1)*W+u2)*B+t')(ht:t'<B)(hu:u2<W)
  (hg:G*v1+ρ=u0*W+u1)(hr:ρ<v1):T<(G+1)*Y:=by
 have h1:u0*W+u1+1<=(G+1)*v1:=by rw [Nat.add_mul,Nat.one_mul];omega
 have h2:=Nat.mul_le_mul_right (W*B) h1
 have h3:(G+1)*v1*(W*B)<=(G+1)*Y:=by
  rw [hY,Nat.mul_assoc]
  refine Nat.mul_le_mul_left _ ?_
  rw [←Nat.mul_assoc,Nat.add_mul];omega
 have h4:((u0*W+u1)*W+u2)*B+t'<(u0*W+u1+1)*(W*B):=by
  have h5:(u2+1)*B<=W*B:=Nat.mul_le_mul_right _ hu
  rw [Nat.add_mul,Nat.one_mul] at h5
  have h6:(u0*W+u1+1)*(W*B)=(u0*W+u1)*W*B+W*B:=by grind
  rw [h6,Nat.add_mul ((u0*W+u1)*W) u2 B];omega
 omega
theorem Al {F U c b g d u Y W S:Nat}{x:Int}(h:F+W*(g*Y)=U+W*S*(c+b))(hc:c<4294967296)(hb:b<=1)(hu:u<4294967296)
  (hx:x=((u:Int)-((c+g*d)%4294967296:Nat)-b)%18446744073709551616) :
  0<=x/\0<=x / 9223372036854775808/\x / 9223372036854775808<=1 /\
  F+W*S*(x%4294967296).toNat+W*(g*(Y+S*d))=U+W*S*u+W*(S*4294967296)*((c+g*d) / 4294967296+(x / 9223372036854775808).toNat):=by
 have E_:=Nat.mod_add_div (c+g*d) 4294967296
 have hm:(c+g*d)%4294967296<4294967296:=Nat.mod_lt _ (by omega)
 generalize (c+g*d) / 4294967296=q at *
 generalize (c+g*d)%4294967296=m at *
 have key:∃o B:Nat,(x%4294967296).toNat=o/\(x / 9223372036854775808).toNat=B/\u+4294967296*B=o+m+b/\0<=x/\0<=x / 9223372036854775808/\x / 9223372036854775808<=1:=by
  refine ⟨_,_,rfl,rfl,?_,by omega,by omega,by omega⟩
  omega
 obtain ⟨o,B,e1,e2,e3,g1,g2,g3⟩:=key
 refine ⟨g1,g2,g3,?_⟩
 rw [e1,e2]
 have e4:u+4294967296*(B+q)=o+b+(c+g*d):=by omega
 have e5:W*S*u+W*(S*4294967296)*(q+B)=W*S*(u+4294967296*(B+q)):=by grind
 rw [Nat.add_assoc U,e5,e4]
 grind
theorem yW {F U c d u Y W S t:Nat}(h:F+W*S*c=U+W*Y)(ht:t=c+u+d) :
  F+W*S*(t%4294967296)+W*(S*4294967296)*(t / 4294967296)=U+W*S*u+W*(Y+S*d):=by
 have h1:W*S*(t%4294967296)+W*(S*4294967296)*(t / 4294967296)=W*S*t:=by
  have:=Nat.mod_add_div t 4294967296
  have e:W*(S*4294967296)*(t / 4294967296)=W*S*(4294967296*(t / 4294967296)):=by grind
  rw [e,←Nat.mul_add,this]
 rw [Nat.add_assoc,h1,ht]
 grind
end Go.dP
