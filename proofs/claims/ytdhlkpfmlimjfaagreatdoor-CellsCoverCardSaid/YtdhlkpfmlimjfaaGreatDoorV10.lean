import Derived.Test.YtdhlkpfmlimjfaaGreatDoorV6
import Derived.Test.YtdhlkpfmlimjfaaGreatDoorCards
import Derived.Test.YtdhlkpfmlimjfaaGreatDoorTie
import Derived.WalkKit
import Derived.ProofKit
import Derived.OpenShut
import Derived.Deep.DeepHandedRow
import Derived.LaidLaws
import Derived.Lay
import Derived.Carry
import Derived.IntWalk
import Derived.Test.YtdhlkpfmlimjfaaGreatDoorV7
set_option linter.unusedVariables false
open Go.IntKind (i64 u64 u32)
namespace Go.Proofs.YtdhlkpfmlimjfaaGreatDoor
open Go.ChangeShapes Go.WideShapes Go.ChangeAt Go.RowKit Go.Eng
theorem own:ownKnob Tryz.prog.godebug=none:=by kernel_rfl
theorem star : "*" ++ "errors.errorString" = "*errors.errorString" := by decide
theorem Ts (u : TypeId)(h : Tryz.prog.typeName? 3 u = some "*errors.errorString") : u = 335 :=
 typeName_ptr_named (nm := "errors.errorString") (by rw [star]; kernel_rfl) (by kernel_rfl) (by decide) u (by rw [star]; exact h)
theorem LW:Tryz.prog.cellsOf 360=1:=by kernel_rfl
theorem LX:Tryz.prog.cellsOf 9=1:=by kernel_rfl
theorem Tq (g:Nat):MemPlace.cell g 0∈MemPlace.row ⟨g,0,none⟩ 1:=by simp [MemPlace.row]
theorem K0 {P:Program}{W:World}{name:String}{g:Nat}{v:Value}(hg:P.globalNamed name=some g)(h:W.var? P name=some #[v]):W.cell? ⟨g,0,none⟩=some v:=by simpa using World.var?_cell hg h 0
set_option maxRecDepth 100000 in
theorem oQ {W:World}{l:List (String×DataW Unit)}{name:String}{text:List UInt8}{g:Nat}(hg:Tryz.prog.globalNamed name=some g)(hty:(Tryz.prog.globals[g]?).map (·.type)=some 29)
  (hm : (name, .iface "*errors.errorString" (.ptr (.agg [.lit (.string text)]))) ∈ l)(h : laidMet Tryz.prog l W) :
  ∃a,W.cell? ⟨g,0,none⟩=some (.iface 335 (.pointer (some a))):=by
 obtain ⟨k,m,-,c⟩:=h
 induction l generalizing k with
 | nil=>cases hm
 | cons x r ih=>
  obtain ⟨n,d⟩:=x
  obtain ⟨B,t,cs,fuel,p,q,i,o,f,w,y,rfl⟩:=m
  rcases List.mem_cons.1 hm with e|hm
  ·cases e
   obtain rfl:=Option.some.inj (hg.symm.trans i)
   obtain rfl:=Option.some.inj (hty.symm.trans o)
   obtain ⟨z⟩:=cs
   have j:∀u v,z=[.iface u v]->Value.okWide Tryz.prog W .any 0 u v:=fun u v e=>by
    subst e
    exact (c g 0 (List.mem_append_left _ (List.mem_append_left _ (Tq g)))).2 u v (K0 hg f)
   obtain ⟨a,s,rfl,-⟩:=errorString_of_trod Tryz.underlying29 Ts Tryz.underlying335 Tryz.underlying360 rfl rfl Tryz.underlying9 LW LX w j
   exact ⟨a,K0 hg f⟩
  ·exact ih hm q y fun b off A=>c b off (List.mem_append_right _ A)
def View.all (W:World):View:=⟨W,fun _=>False,fun _=>False,fun _ h=>h.elim,fun _ h=>h⟩
theorem BF {w w':World}(h:dP (fun _=>False) w w')(may:MemPlace->Prop):w.keptBut w' may:=by
 refine ⟨h.os,h.out,fun i a=>?_⟩
 rw [h.aW i a (fun h=>h)]
 cases w.heap[i]? with
 | none=>rfl
 | some o=>cases o<;>simp
theorem wc {f:FuncId}{args:Array Value}{W:World}{R:Value->Prop}(h:Acts Tryz.prog f args (View.all W) fun r _=>R r):Calls Tryz.prog f args W fun e w'=>∃r,e=.returned r/\R r/\dP (fun _=>False) W w':=
 h.2.mono fun e w' ⟨r,he,a,b⟩=>⟨r,he,b,a⟩
theorem laidOut:laidOutB Tryz.prog=true:=by kernel_rfl
theorem yH {w w':World}(h:dP (fun _=>False) w w'):Below w.heap.size w w':=⟨h.os,h.tape,h.out,h.size,fun k a=>h.aW k a (fun h=>h)⟩
theorem Fj {P:Program}(hlo:laidOutB P=true){H:Type}{enc:TypeId×Value->H}{W W':World}(hb:Below W.heap.size W W')(ts:List TypeId):∀{vs:List Value} {ds:List (DataW H)} {ps:List MemPlace},
  (ts.all fun t=>P.readableRec t&&decide (t<P.types.size))=true->DataW.TrodAll enc P W 0 (fun _=>true) true ts vs ds ps->(∀x∈ps,x.block<W.heap.size) ->
   DataW.TrodAll enc P W' 0 (fun b=>decide (b<W.heap.size)) true ts vs ds ps:=by
 induction ts with
 | nil=>
  intro vs ds ps _ h _
  obtain ⟨rfl,rfl,rfl⟩:=trodAll_nil h
  exact trodAll_mk0
 | cons t ts ih=>
  intro vs ds ps c h a
  obtain ⟨v,f,d,g,p,q,rfl,rfl,rfl,i,j⟩:=trodAll_cons h
  simp only [List.all_cons,Bool.and_eq_true,decide_eq_true_eq] at c
  exact trodAll_cons_mk (Below.trod hlo c.1.1 c.1.2 i hb fun x e=>a x (List.mem_append_left _ e)) (ih c.2 j fun x e=>a x (List.mem_append_right _ e))
set_option maxRecDepth 100000 in
theorem J1 {H:Type}{enc:TypeId×Value->H}{Uv:FuncId}{f:Func}{s:ChangeSpec}{W:World}{args:Array Value}{ds gs:List (DataW H)}{before:List MemPlace}{fresh handsOn:Bool}
  (hW:DataW.Whole enc Tryz.prog f.params.toList s.vars false W args.toList ds gs before)(hvars:s.vars=[])(hts:(f.params.toList.all fun t=>Tryz.prog.readableRec t&&decide (t<Tryz.prog.types.size))=true)
  (hres:f.resultTypes=#[4])(hs:s.fn H (ds++gs)={ results:=[.lit (.bool true)],args:=ds })
  (h:Acts Tryz.prog Uv args (View.all W) fun r _=>r=.bool true):Calls Tryz.prog Uv args W fun e W'=>∃v,e=.returned v/\s.post enc Tryz.prog f false fresh handsOn false W args v W':=by
 refine (wc h).mono fun e W' ⟨r,he,g,a⟩=>?_
 subst he g
 have b:=hW
 obtain ⟨p,q,i,d,rfl,-,-⟩:=hW
 rw [hvars] at d
 obtain ⟨rfl,rfl⟩:=trodVars_none d
 have c:∀x∈p++[],x.block<W.heap.size:=fun x a=>b.lt x a
 refine ⟨_,rfl,ds,_,p++[],[],p++[],[],b,?_,?_,?_,BF a _,fun h=>nomatch h⟩
 ·rw [hs,hres]
  exact trodAll_cons_mk (shut_bool Tryz.underlying4 _) trodAll_mk0
 ·rw [hs,List.append_nil]
  exact Fj laidOut (yH a) _ hts i fun x a=>c x (by rw [List.append_nil];exact a)
 ·rw [hs,hvars]
  rfl
set_option maxRecDepth 100000 in
theorem Cc {H:Type}{enc:TypeId×Value->H}{W:World}{p:OA}{n c:Nat}{d:DataW H}{ps:List MemPlace}
  (h:DataW.Trod enc Tryz.prog W 0 (fun _=>true) true 22 (.slice p n c) d ps):n<=c/\∀i,i<n->∃(a:Addr)(x:Int),addrAdd p (i*1)=some a/\(View.all W).at a (.int .i64 x):=by
 obtain ⟨fuel,k⟩:=h
 rcases open_ints Tryz.underlying22 Tryz.underlying3 (show Tryz.prog.cellsOf 3=1 by kernel_rfl) k with ⟨b,-⟩|⟨a,f,g,o,b,_,l,-,m,-,e,-⟩
 ·simp [Value.cells] at b
  obtain ⟨rfl,rfl,rfl⟩:=b
  exact ⟨Nat.le_refl _,fun i j=>absurd j (by omega)⟩
 ·simp [Value.cells] at b
  obtain ⟨rfl,rfl,rfl⟩:=b
  simp only [if_true] at m
  exact ⟨l,fun i j=>⟨a.add i,_,by rw [Nat.mul_one];rfl,fun h=>h,e i (by omega)⟩⟩
end Go.Proofs.YtdhlkpfmlimjfaaGreatDoor
namespace Go.Big
def val:List Nat->Nat
 | []=>0
 | d::r=>d+4294967296*val r
def bI (ds:List Nat):Prop:=∀d∈ds,d<4294967296
def bR:List Nat->List Nat
 | []=>[]
 | d::r=>if bR r=[]/\d=0 then [] else d::bR r
def rK (ds:List Nat):Prop:=bR ds=ds
def tO:Nat->Nat->List Nat
 | 0,_=>[]
 | f+1,n=>if n=0 then [] else n%4294967296::tO f (n / 4294967296)
def af (n:Nat):List Nat:=tO n n
@[simp] theorem dG:val []=0:=rfl
@[simp] theorem aU (d:Nat)(r:List Nat):val (d::r)=d+4294967296*val r:=rfl
theorem bI.nil:bI []:=fun _ h=>nomatch h
theorem bI.cons {d:Nat}{r:List Nat}:bI (d::r)↔d<4294967296/\bI r:=by simp [bI]
theorem bI.append {a b:List Nat}:bI (a++b)↔bI a/\bI b:=by simp [bI,or_imp,forall_and]
theorem bI.take {a:List Nat}(h:bI a)(k:Nat):bI (a.take k):=fun d b=>h d (List.mem_of_mem_take b)
theorem bI.drop {a:List Nat}(h:bI a)(k:Nat):bI (a.drop k):=fun d b=>h d (List.mem_of_mem_drop b)
theorem bI.set {a:List Nat}(h:bI a)(k x:Nat)(hx:x<4294967296):bI (a.set k x):=fun d c=>by
 rcases List.mem_or_eq_of_mem_set c with b|b
 ·exact h d b
 ·exact b▸hx
theorem bI.get {a:List Nat}(h:bI a){i:Nat}(hi:i<a.length):a[i]<4294967296:=h _ (List.getElem_mem hi)
theorem bI.rep (n:Nat):bI (List.replicate n 0):=fun d a=>by rw [List.eq_of_mem_replicate a];omega
theorem cM (a b:List Nat):val (a++b)=val a+4294967296^a.length*val b:=by
 induction a with
 | nil=>simp
 | cons d r ih=>simp only [List.cons_append,aU,ih,List.length_cons,Nat.pow_succ];grind
theorem fq {ds:List Nat}(h:bI ds):val ds<4294967296^ds.length:=by
 induction ds with
 | nil=>simp
 | cons d r ih=>
  have a:=bI.cons.1 h
  have:=ih a.2
  have c:=a.1
  simp only [aU,List.length_cons,Nat.pow_succ]
  have b:val r+1<=4294967296^r.length:=this
  have e:=Nat.mul_le_mul_left 4294967296 b
  omega
theorem sS (n:Nat):val (List.replicate n 0)=0:=by
 induction n with
 | zero=>rfl
 | succ n ih=>simp [List.replicate_succ,ih]
theorem aq (ds:List Nat)(i:Nat)(h:i<ds.length):val (ds.take (i+1))=val (ds.take i)+4294967296^i*ds[i]:=by
 rw [List.take_succ_eq_append_getElem h,cM]
 simp [List.length_take,Nat.min_eq_left (Nat.le_of_lt h)]
theorem ai {ds:List Nat}{i:Nat}(h:ds.length<=i):val (ds.take i)=val ds:=by rw [List.take_of_length_le h]
theorem wE (ds:List Nat)(i x:Nat)(h:i<ds.length):(ds.set i x).take (i+1)=ds.take i++[x]:=by
 rw [List.take_succ_eq_append_getElem (by simpa using h),List.take_set,List.set_eq_of_length_le (by simp;omega)]
 simp
theorem aE (ds:List Nat)(i x:Nat)(h:i<ds.length):val ((ds.set i x).take (i+1))=val (ds.take i)+4294967296^i*x:=by
 rw [wE ds i x h,cM]
 simp [List.length_take,Nat.min_eq_left (Nat.le_of_lt h)]
theorem f_ (r:List Nat):bR (r++[0])=bR r:=by
 induction r with
 | nil=>simp [bR]
 | cons d r ih=>simp only [List.cons_append,bR,ih]
theorem nE (r:List Nat)(d:Nat)(h:d≠0):bR (r++[d])=r++[d]:=by
 induction r with
 | nil=>simp [bR,h]
 | cons x r ih=>simp [List.cons_append,bR,ih]
theorem Gs (ds:List Nat):val (bR ds)=val ds:=by
 induction ds with
 | nil=>rfl
 | cons d r ih=>
  simp only [bR]
  split
  ·rename_i h
   rw [aU,←ih,h.1,h.2];rfl
  ·simp [ih]
theorem jS (ds:List Nat):(bR ds).length<=ds.length:=by
 induction ds with
 | nil=>simp [bR]
 | cons d r ih=>simp only [bR];split<;>simp<;>omega
theorem Gq (ds:List Nat):bR ds=ds.take (bR ds).length:=by
 induction ds with
 | nil=>rfl
 | cons d r ih=>
  simp only [bR]
  split
  ·rfl
  ·simp only [List.length_cons,List.take_succ_cons];rw [←ih]
theorem bI.trim {ds:List Nat}(h:bI ds):bI (bR ds):=by rw [Gq];exact h.take _
theorem Cs (ds:List Nat):rK (bR ds):=by
 unfold rK
 induction ds with
 | nil=>rfl
 | cons d r ih=>
  rw [bR]
  split
  ·rfl
  ·rename_i h;rw [bR,ih,if_neg h]
theorem rK.tail {d:Nat}{r:List Nat}(h:rK (d::r)):rK r:=by
 unfold rK at h ⊢
 simp only [bR] at h
 split at h
 ·cases h
 ·injection h
theorem rK.zero {ds:List Nat}(h:rK ds)(hv:val ds=0):ds=[]:=by
 induction ds with
 | nil=>rfl
 | cons d r ih=>
  have a:=ih h.tail (by simp at hv;omega)
  subst a
  simp at hv;subst hv
  simp [rK,bR] at h
theorem oa:∀(f n:Nat),n<=f->val (tO f n)=n/\bI (tO f n)/\rK (tO f n)
 | 0,n,h=>⟨by simp [tO];omega,bI.nil,rfl⟩
 | f+1,n,h=>by
  simp only [tO]
  split
  ·subst_vars;exact ⟨rfl,bI.nil,rfl⟩
  ·obtain ⟨h1,h2,h3⟩:=oa f (n / 4294967296) (by omega)
   refine ⟨by rw [aU,h1];omega,bI.cons.2 ⟨by omega,h2⟩,?_⟩
   unfold rK at h3 ⊢
   rw [bR,h3,if_neg]
   rintro ⟨a,b⟩
   rw [a] at h1
   simp at h1
   omega
theorem ab (n:Nat):val (af n)=n:=(oa n n (Nat.le_refl _)).1
theorem ax (n:Nat):bI (af n):=(oa n n (Nat.le_refl _)).2.1
theorem ir (n:Nat):rK (af n):=(oa n n (Nat.le_refl _)).2.2
theorem rK.ext:∀{a b:List Nat},bI a->bI b->rK a->rK b->val a=val b->a=b
 | [],b,_,_,_,hb,h=>(hb.zero (by rw [←h];rfl)).symm
 | d::r,[],_,_,ha,_,h=>by have:=ha.zero h;cases this
 | d::r,e::s,ha,hb,na,nb,h=>by
  have f:=(bI.cons.1 ha).1
  have g:=(bI.cons.1 hb).1
  simp only [aU] at h
  have:val r=val s:=by omega
  have c:=rK.ext (bI.cons.1 ha).2 (bI.cons.1 hb).2 na.tail nb.tail this
  have:d=e:=by omega
  subst this;rw [c]
theorem tQ {ds:List Nat}(h:bI ds)(hn:rK ds):af (val ds)=ds:=rK.ext (ax _) h (ir _) hn (ab _)
theorem aJ {ds:List Nat}(h:bI ds):bR ds=af (val ds):=by
 rw [←Gs,tQ h.trim (Cs _)]
theorem tP {a b:Nat}(h:af a=af b):a=b:=by rw [←ab a,h,ab]
@[simp] theorem xL:af 0=[]:=rfl
theorem bf {n:Nat}:af n=[]↔n=0:=⟨fun h=>tP (by rw [h];rfl),fun h=>h▸rfl⟩
theorem rK.last {ds:List Nat}(h:rK ds)(hl:0<ds.length):ds[ds.length-1]≠0:=by
 intro e
 have a:ds=ds.take (ds.length-1)++[ds[ds.length-1]]:=by
  rw [←List.take_succ_eq_append_getElem (by omega),Nat.sub_add_cancel hl,List.take_length]
 rw [e] at a
 have b:bR ds=ds:=h
 rw [a,f_] at b
 have:=jS (ds.take (ds.length-1))
 rw [b] at this
 simp at this
 omega
theorem BU {ds:List Nat}(h:∀hl:0<ds.length,ds[ds.length-1]≠0):rK ds:=by
 rcases Nat.eq_zero_or_pos ds.length with e|e
 ·rw [List.length_eq_zero_iff.1 e];rfl
 ·have a:ds=ds.take (ds.length-1)++[ds[ds.length-1]]:=by
   rw [←List.take_succ_eq_append_getElem (by omega),Nat.sub_add_cancel e,List.take_length]
  have:=nE (ds.take (ds.length-1)) _ (h e)
  rw [←a] at this
  exact this
theorem I3 {ds:List Nat}(h:rK ds)(hl:0<ds.length):4294967296^(ds.length-1)<=val ds:=by
 have a:ds=ds.take (ds.length-1)++[ds[ds.length-1]]:=by
  rw [←List.take_succ_eq_append_getElem (by omega),Nat.sub_add_cancel hl,List.take_length]
 have b:=h.last hl
 rw [a,cM]
 simp only [aU,dG,List.length_take]
 rw [Nat.min_eq_left (by omega)]
 simp only [List.length_append,List.length_take,List.length_singleton]
 rw [Nat.min_eq_left (by omega),Nat.sub_add_cancel hl]
 have:4294967296^(ds.length-1)*1<=4294967296^(ds.length-1)*(ds[ds.length-1]+4294967296*0):=Nat.mul_le_mul_left _ (by omega)
 omega
theorem az {n k:Nat}:(af n).length<=k↔n<4294967296^k:=by
 constructor
 ·intro h
  have:=fq (ax n)
  rw [ab] at this
  exact Nat.lt_of_lt_of_le this (Nat.pow_le_pow_right (by omega) h)
 ·intro h
  rcases Nat.lt_or_ge k (af n).length with a|a
  ·have:=I3 (ir n) (by omega)
   rw [ab] at this
   have b:4294967296^k<=4294967296^((af n).length-1):=Nat.pow_le_pow_right (by omega) (by omega)
   omega
  ·exact a
theorem qQ {n k:Nat}:k<(af n).length↔4294967296^k<=n:=by
 have:=@az n k
 omega
theorem fI (ds:List Nat)(i:Nat)(h:i<ds.length):val ds=val (ds.take i)+4294967296^i*(ds[i]+4294967296*val (ds.drop (i+1))):=by
 have a:val ds=val (ds.take i++ds.drop i):=by rw [List.take_append_drop]
 rw [a,cM,List.drop_eq_getElem_cons h]
 simp only [List.length_take,Nat.min_eq_left (Nat.le_of_lt h),aU]
theorem iU {a b:List Nat}{i:Nat}(ha:bI a)(hi:i<a.length)(hj:i<b.length)(hd:a.drop (i+1)=b.drop (i+1))(hl:a[i]<b[i]):val a<val b:=by
 rw [fI a i hi,fI b i hj,hd]
 have c:=fq (ha.take i)
 simp only [List.length_take,Nat.min_eq_left (Nat.le_of_lt hi)] at c
 have d:4294967296^i*(a[i]+4294967296*val (b.drop (i+1))+1)<=4294967296^i*(b[i]+4294967296*val (b.drop (i+1))):=Nat.mul_le_mul_left _ (by omega)
 rw [Nat.mul_add,Nat.mul_one] at d
 omega
theorem jI {a b:Nat}(h:(af a).length<(af b).length):a<b:=by
 have c:=fq (ax a)
 have d:=I3 (ir b) (by omega)
 rw [ab] at c d
 have e:4294967296^(af a).length<=4294967296^((af b).length-1):=Nat.pow_le_pow_right (by omega) (by omega)
 omega
def jC (a b:Nat):Int:=if a<b then -1 else if b<a then 1 else 0
theorem aB {a b:Nat}(h:a<=b):(af a).length<=(af b).length:=by
 rcases Nat.lt_or_ge (af b).length (af a).length with c|c
 ·have:=jI c;omega
 ·exact c
theorem a_ {ds:List Nat}(h:bI ds):(af (val ds)).length<=ds.length:=by rw [←aJ h];exact jS ds
theorem Jz {n:Nat}(h:n<4294967296)(h0:n≠0):af n=[n]:=by
 have:rK [n]:=by simp [rK,bR,h0]
 have:=tQ (by simp [bI];exact h) this
 simpa using this
end Go.Big
namespace Go.Eng
open Go.Big
theorem i64w {x:Int}(h:-9223372036854775808<=x/\x<=9223372036854775807):i64.wrap x=x:=IntWalk.i64_in x h
theorem aH {x:Int}(h:0<=x/\x<=18446744073709551615):u64.wrap x=x:=IntWalk.u64_in x h
theorem oY {x:Int}(h:0<=x/\x<=4294967295):u32.wrap x=x:=IntWalk.u32_in x h
theorem gI (x:Int):u32.wrap x=x%4294967296:=by rw [IntKind.wrap_u32]
theorem qo (x:Int):u64.wrap x=x%18446744073709551616:=by rw [IntKind.wrap_u64]
theorem kF {x:Int}:x.fdiv (2^32)=x / 4294967296:=by rw [Int.fdiv_eq_ediv_of_nonneg _ (by decide)];rfl
theorem IP {x:Int}:x.fdiv (2^63)=x / 9223372036854775808:=by rw [Int.fdiv_eq_ediv_of_nonneg _ (by decide)];rfl
theorem B1 (a b:Nat)(ha:a<4294967296)(hb:b<4294967296):aX .or .u64 ((a:Int)*4294967296) (b:Int)=(a:Int)*4294967296+b:=by
 have c:((a:Int)*4294967296)=((a*2^32:Nat):Int):=by simp
 rw [aX,c,qo]
 have d:(BitVec.ofInt IntKind.u64.bits ((a*2^32:Nat):Int) ||| BitVec.ofInt IntKind.u64.bits (b:Int)).toNat=a*2^32+b:=by
  show (BitVec.ofInt 64 ((a*2^32:Nat):Int) ||| BitVec.ofInt 64 (b:Int)).toNat=_
  rw [BitVec.ofInt_natCast,BitVec.ofInt_natCast,BitVec.toNat_or,BitVec.toNat_ofNat,BitVec.toNat_ofNat,Nat.mod_eq_of_lt (by omega),Nat.mod_eq_of_lt (by omega)]
  have:=Nat.shiftLeft_add_eq_or_of_lt (b:=b) (i:=32) (by omega) a
  rw [Nat.shiftLeft_eq] at this
  exact this.symm
 rw [d]
 omega
def ay (ds:List Nat):List Value:=ds.map fun (d:Nat)=>Value.int .u32 (d:Int)
@[simp] theorem P6 (ds:List Nat):(ay ds).length=ds.length:=by simp [ay]
theorem aZ (ds:List Nat)(i x:Nat):(ay ds).set i (.int .u32 (x:Int))=ay (ds.set i x):=by simp [ay,List.map_set]
theorem cq (n:Nat):List.replicate n (Value.int .u32 0)=ay (List.replicate n 0):=by simp [ay]
theorem fm {ds:List Nat}{i:Nat}(h:i<ds.length):(ay ds)[i]?=some (.int .u32 (ds[i]:Int)):=by simp [ay,h]
theorem yv (ds:List Nat)(k:Nat):ay (ds.take k)=(ay ds).take k:=by simp [ay,List.map_take]
theorem Gr (ds:List Nat)(k:Nat):ay (ds.drop k)=(ay ds).drop k:=by simp [ay,List.map_drop]
theorem rE (a b:List Nat):ay (a++b)=ay a++ay b:=by simp [ay]
theorem View.Le.sl {V V':View}(h:V.Le V'){a:OA}{xs:List Value}(hs:V.sl a xs):V'.sl a xs:=
 fun i v b=>let ⟨ad,e,ha⟩:=hs i v b;⟨ad,e,h.at ha⟩
structure RD (V:View) (p:OA) (n c:Nat) (ds:List Nat):Prop where
 len:n=ds.length
 cap:n<=c
 sl:V.sl p (ay ds)
 eI:bI ds
 F2:p.isNone=true->c=0
theorem RD.le {V V':View}{p:OA}{n c:Nat}{ds:List Nat}(h:RD V p n c ds)(l:V.Le V'):RD V' p n c ds:=⟨h.len,h.cap,l.sl h.sl,h.eI,h.F2⟩
theorem RD.nil {V:View}:RD V none 0 0 []:=⟨rfl,Nat.le_refl _,fun i v h=>by simp [ay] at h,bI.nil,fun _=>rfl⟩
theorem RD.take {V:View}{p:OA}{n c:Nat}{ds:List Nat}(h:RD V p n c ds){k:Nat}(hk:k<=n):RD V p k c (ds.take k):=by
 have:=h.len
 refine ⟨by simp;omega,by have:=h.cap;omega,fun i v a=>h.sl i v ?_,h.eI.take k,h.F2⟩
 rw [yv] at a
 rw [List.getElem?_take] at a
 split at a
 ·exact a
 ·cases a
theorem RD.rd {V:View}{p:OA}{n c:Nat}{ds:List Nat}(h:RD V p n c ds){i:Int}{K:Int->Prop}(j:Nat)(hj:i=j)(hn:j<ds.length)
  (hK:K ((ds[j]:Nat):Int)):(p.isSome=true)/\(0<=i/\i<(n:Int))/\∃x:Int,(∃a,addrAdd p (i.toNat*1)=some a/\V.at a (.int .u32 x))/\K x:=by
 obtain ⟨b,e,d⟩:=h.sl j _ (fm hn)
 have:=h.len
 subst hj
 refine ⟨by rw [e];rfl,⟨by omega,by omega⟩,_,⟨b.add j,?_,d⟩,hK⟩
 rw [e];simp [addrAdd]
theorem blk_at {V:View}{b:Nat}{xs:List Value}{ty:TypeId}{m:Nat×Nat}(h:V.aW b (.cells xs.toArray ty m)){i:Nat}{v:Value}(hv:xs[i]?=some v):V.at ⟨b,i,none⟩ v:=by
 refine ⟨h.1,?_⟩
 unfold World.cell?
 rw [h.2]
 simpa using hv
theorem add_zero' (b i:Nat):(⟨b,0,none⟩:Addr).add i=⟨b,i,none⟩:=by
 unfold Addr.add
 split
 ·rename_i h;simp_all
 ·simp
theorem RD.aW {V:View}{b:Nat}{ds:List Nat}{ty:TypeId}{m:Nat×Nat}(h:V.aW b (.cells (ay ds).toArray ty m))(hd:bI ds){n c:Nat}(hn:n=ds.length)(hc:n<=c):RD V (some ⟨b,0,none⟩) n c ds:=
 ⟨hn,hc,fun i v a=>⟨_,rfl,by rw [add_zero'];exact blk_at h a⟩,hd,fun e=>nomatch e⟩
end Go.Eng
namespace Go.Eng
theorem nU (a:Addr)(m n:Nat):(a.add m).add n=a.add (m+n):=by
 unfold Addr.add
 by_cases b:m=0
 ·subst b;simp
 ·by_cases c:n=0
  ·subst c;simp [b]
  ·rw [if_neg b,if_neg c,if_neg (by omega)]
   simp only [Nat.add_assoc]
variable {α:Type} {sz:Nat} {R:View->Value->α->Prop} {V V':View}
structure Row (sz:Nat) (R:View->Value->α->Prop) (V:View) (vs:List Value) (al:List α):Prop where
 at_:∀(i:Nat)(h:i<al.length),∃xs:List Value,xs.length=sz/\R V (.agg xs.toArray) al[i]/\∀j x,xs[j]?=some x->vs[i*sz+j]?=some x
structure Lst (sz:Nat) (R:View->Value->α->Prop) (V:View) (p:OA) (n:Nat) (al:List α):Prop where
 len:n=al.length
 at_:∀(i:Nat)(h:i<al.length),∃ad,addrAdd p (i*sz)=some ad/\∃xs:List Value,xs.length=sz/\R V (.agg xs.toArray) al[i]/\∀j x,xs[j]?=some x->V.at (ad.add j) x
theorem Row.nil {vs:List Value}:Row sz R V vs []:=⟨fun i h=>absurd h (Nat.not_lt_zero i)⟩
theorem Lst.nil {p:OA}:Lst sz R V p 0 []:=⟨rfl,fun i h=>absurd h (Nat.not_lt_zero i)⟩
theorem Row.le {vs:List Value}{al:List α}(h:Row sz R V vs al)(m:∀v a,R V v a->R V' v a):Row sz R V' vs al:=
 ⟨fun i b=>by obtain ⟨xs,c,d,e⟩:=h.at_ i b;exact ⟨xs,c,m _ _ d,e⟩⟩
theorem Lst.le {p:OA}{n:Nat}{al:List α}(h:Lst sz R V p n al)(l:V.Le V')(m:∀v a,R V v a->R V' v a):Lst sz R V' p n al:=
 ⟨h.len,fun i b=>by obtain ⟨c,d,xs,e,f,g⟩:=h.at_ i b;exact ⟨c,d,xs,e,m _ _ f,fun j x k=>l.at (g j x k)⟩⟩
theorem Row.kl {vs:List Value}{al:List α}(h:Row sz R V vs al)(hs:0<sz):al.length*sz<=vs.length:=by
 by_cases a:al.length=0
 ·rw [a];omega
 ·obtain ⟨xs,d,-,b⟩:=h.at_ (al.length-1) (by omega)
  have c:sz-1<xs.length:=by omega
  have:=(List.getElem?_eq_some_iff.1 (b (sz-1) _ (List.getElem?_eq_getElem c))).1
  have e:al.length*sz=(al.length-1)*sz+sz:=by
   obtain ⟨m,hm⟩:∃m,al.length=m+1:=⟨al.length-1,by omega⟩
   rw [hm,Nat.add_sub_cancel,Nat.succ_mul]
  omega
theorem Row.snoc {vs:List Value}{al:List α}(h:Row sz R V vs al){xs sp:List Value}{a:α}(hx:xs.length=sz)(ha:R V (.agg xs.toArray) a)(hs:0<sz) :
  Row sz R V (vs.take (al.length*sz)++xs++sp) (al++[a]):=by
 have p:=h.kl hs
 have g:(vs.take (al.length*sz)).length=al.length*sz:=by rw [List.length_take];omega
 refine ⟨fun i k=>?_⟩
 rw [List.length_append,List.length_singleton] at k
 by_cases e:i=al.length
 ·subst e
  refine ⟨xs,hx,by rw [List.getElem_append_right (Nat.le_refl _)];simpa using ha,fun j x c=>?_⟩
  have d:=(List.getElem?_eq_some_iff.1 c).1
  rw [List.append_assoc,List.getElem?_append_right (by rw [g];omega),g,Nat.add_sub_cancel_left,List.getElem?_append_left d]
  exact c
 ·have b:i<al.length:=by omega
  obtain ⟨l,m,n,o⟩:=h.at_ i b
  refine ⟨l,m,by rw [List.getElem_append_left b];exact n,fun j x c=>?_⟩
  have d:=(List.getElem?_eq_some_iff.1 c).1
  have f:i*sz+j<al.length*sz:=by
   have:(i+1)*sz<=al.length*sz:=Nat.mul_le_mul_right _ b
   rw [Nat.succ_mul] at this
   omega
  rw [List.append_assoc,List.getElem?_append_left (by rw [g];exact f),List.getElem?_take,if_pos f]
  exact o j x c
theorem Lst.DN {bk:Nat}{ty:TypeId}{m:Nat×Nat}{vs:List Value}{al:List α}(hb:V.aW bk (.cells vs.toArray ty m))(h:Row sz R V vs al):Lst sz R V (some ⟨bk,0,none⟩) al.length al:=by
 refine ⟨rfl,fun i a=>?_⟩
 obtain ⟨xs,b,c,d⟩:=h.at_ i a
 refine ⟨⟨bk,i*sz,none⟩,by simp [addrAdd,add_zero'],xs,b,c,fun j x f=>?_⟩
 have e:(⟨bk,i*sz,none⟩:Addr).add j=⟨bk,i*sz+j,none⟩:=by rw [←add_zero',nU,add_zero']
 rw [e]
 exact blk_at hb (d j x f)
theorem Lst.of_mrow {bk c:Nat}{ty:TypeId}{m:Nat×Nat}{vs:List Value}{al:List α}(hb:vs≠[]->V.aW bk (.cells vs.toArray ty m))(h:Row sz R V vs al)(hs:0<sz)(hc:al.length<=c):Lst sz R V (mA bk c) al.length al:=by
 cases al with
 | nil=>exact Lst.nil
 | cons a r=>
  have b:vs≠[]:=fun e=>by
   have:=h.kl hs
   rw [e,List.length_cons,Nat.succ_mul] at this
   simp at this;omega
  have:mA bk c=some ⟨bk,0,none⟩:=by unfold mA;rw [if_neg];rw [List.length_cons] at hc;omega
  rw [this]
  exact Lst.DN (hb b) h
end Go.Eng
namespace Go.Proofs.Tryz
open Go.Eng Go.Big
structure GR {α:Type} (sz:Nat) (R:View->Value->α->Prop) (V:View) (n c:Nat) (vs:List Value) (l:List α):Prop where
 len:n=l.length
 le:n<=c
 cap:c*sz<=vs.length
 row:Row sz R V vs l
theorem GR.nil {α:Type}{sz:Nat}{R:View->Value->α->Prop}{V:View}:GR sz R V 0 0 [] []:=⟨rfl,Nat.le_refl _,by simp,Row.nil⟩
theorem GR.mono {α:Type}{sz:Nat}{R:View->Value->α->Prop}{V V':View}{n c:Nat}{vs:List Value}{l:List α}(h:GR sz R V n c vs l)(m:∀v a,R V v a->R V' v a):GR sz R V' n c vs l:=⟨h.len,h.le,h.cap,h.row.le m⟩
theorem GR.snoc {α:Type}{sz:Nat}{R:View->Value->α->Prop}{V:View}{n c:Nat}{vs:List Value}{l:List α}(h:GR sz R V n c vs l){xs:List Value}{a:α}(hx:xs.length=sz)(ha:R V (.agg xs.toArray) a)(h0:0<sz){sp:List Value}{c':Nat}(h1:n+1<=c')(h2:c'*sz<=(n+1)*sz+sp.length) :
  GR sz R V (n+1) c' (vs.take (n*sz)++xs++sp) (l++[a]):=by
 have b:=h.len
 have e:=h.cap
 have f:n*sz<=c*sz:=Nat.mul_le_mul_right _ h.le
 refine ⟨by rw [List.length_append,b];rfl,h1,?_,?_⟩
 ·have d:(vs.take (n*sz)).length=n*sz:=by rw [List.length_take];omega
  rw [List.length_append,List.length_append,d,hx]
  rw [Nat.succ_mul] at h2
  exact h2
 ·have:=h.row.snoc (sp:=sp) hx ha h0
  rw [←b] at this
  exact this
theorem row_one {α:Type}{sz:Nat}{R:View->Value->α->Prop}{V:View}{xs:List Value}{a:α}(hx:xs.length=sz)(ha:R V (.agg xs.toArray) a):Row sz R V xs [a]:=by
 refine ⟨fun i b=>?_⟩
 obtain rfl:i=0:=by simpa using b
 exact ⟨xs,hx,ha,fun j x c=>by rw [Nat.zero_mul,Nat.zero_add];exact c⟩
theorem uP {α:Type}{sz:Nat}{R:View->Value->α->Prop}{V:View}{vs:List Value}{ls:List α}(h:Row sz R V vs ls){k:Nat}(hk:k<=ls.length){xs sp:List Value}{a:α}(hx:xs.length=sz)(ha:R V (.agg xs.toArray) a)(hs:0<sz) :
  Row sz R V (vs.take (k*sz)++(xs++(vs.take (ls.length*sz)).drop (k*sz))++sp) (ls.take k++a::ls.drop k):=by
 have v:=h.kl hs
 have q:k*sz<=ls.length*sz:=Nat.mul_le_mul_right _ hk
 have t1:(vs.take (k*sz)).length=k*sz:=by rw [List.length_take];omega
 have t2:((vs.take (ls.length*sz)).drop (k*sz)).length=ls.length*sz-k*sz:=by rw [List.length_drop,List.length_take];omega
 have g:(ls.take k).length=k:=by rw [List.length_take];omega
 refine ⟨fun i r=>?_⟩
 rw [List.append_assoc]
 by_cases s:i<k
 ·have c:i<ls.length:=by omega
  obtain ⟨l,n,o,p⟩:=h.at_ i c
  have e:(ls.take k++a::ls.drop k)[i]=ls[i]:=by rw [List.getElem_append_left (by omega),List.getElem_take]
  refine ⟨l,n,by rw [e];exact o,fun j x b=>?_⟩
  have d:=(List.getElem?_eq_some_iff.1 b).1
  have f:i*sz+j<k*sz:=by
   have:(i+1)*sz<=k*sz:=Nat.mul_le_mul_right _ s
   rw [Nat.succ_mul] at this
   omega
  rw [List.getElem?_append_left (by omega),List.getElem?_take,if_pos f]
  exact p j x b
 ·by_cases t:i=k
  ·subst t
   have e:(ls.take i++a::ls.drop i)[i]=a:=by
    rw [List.getElem_append_right (by omega)]
    simp [g]
   refine ⟨xs,hx,by rw [e];exact ha,fun j x b=>?_⟩
   have d:=(List.getElem?_eq_some_iff.1 b).1
   rw [List.getElem?_append_right (by omega),t1,Nat.add_sub_cancel_left,List.append_assoc,List.getElem?_append_left d]
   exact b
  ·have c:i-1<ls.length:=by
    rw [List.length_append,g,List.length_cons,List.length_drop] at r
    omega
   obtain ⟨l,n,o,p⟩:=h.at_ (i-1) c
   have e:(ls.take k++a::ls.drop k)[i]=ls[i-1]:=by
    rw [List.getElem_append_right (by omega)]
    obtain ⟨m,hm⟩:∃m,i=k+(m+1):=⟨i-k-1,by omega⟩
    subst hm
    simp only [g,Nat.add_sub_cancel_left,List.getElem_cons_succ,List.getElem_drop]
    congr 1
   refine ⟨l,n,by rw [e];exact o,fun j x b=>?_⟩
   have d:=(List.getElem?_eq_some_iff.1 b).1
   obtain ⟨m,hm⟩:∃m,i=k+1+m:=⟨i-k-1,by omega⟩
   subst hm
   have w:(k+1+m)*sz=k*sz+sz+m*sz:=by rw [Nat.add_mul,Nat.add_mul,Nat.one_mul]
   have u:(k+1+m-1)*sz=k*sz+m*sz:=by rw [show k+1+m-1=k+m by omega,Nat.add_mul]
   have:=p j x b
   rw [u] at this
   have f:k*sz+m*sz+j<ls.length*sz:=by
    have:(k+m+1)*sz<=ls.length*sz:=Nat.mul_le_mul_right _ (by omega)
    rw [Nat.add_mul,Nat.add_mul,Nat.one_mul] at this
    omega
   rw [List.getElem?_append_right (by omega),t1,List.append_assoc,List.getElem?_append_right (by omega),hx,List.getElem?_append_left (by omega),List.getElem?_drop,List.getElem?_take,if_pos (by omega)]
   rw [show k*sz+((k+1+m)*sz+j-k*sz-sz)=k*sz+m*sz+j by omega]
   exact this
theorem lst_cells {α:Type}{sz:Nat}{R:View->Value->α->Prop}{V:View}{p:OA}{n:Nat}{ls:List α}(h:Lst sz R V p n ls)(hs:0<sz):∃xs:List Value,V.sl p xs/\xs.length=ls.length*sz/\Row sz R V xs ls:=by
 have step:∀k,k<=ls.length->∃xs:List Value,V.sl p xs/\xs.length=k*sz/\Row sz R V xs (ls.take k):=by
  intro k
  induction k with
  | zero=>exact fun _=>⟨[],fun i v b=>by simp at b,by simp,by rw [List.take_zero];exact Row.nil⟩
  | succ k ih=>
   intro s
   obtain ⟨xs,f,d,e⟩:=ih (by omega)
   obtain ⟨l,g,m,j,o,q⟩:=h.at_ k (by omega)
   have r:(ls.take k).length=k:=by rw [List.length_take];omega
   refine ⟨xs++m,fun i v b=>?_,by rw [List.length_append,d,j,Nat.succ_mul],?_⟩
   ·by_cases c:i<xs.length
    ·rw [List.getElem?_append_left c] at b;exact f i v b
    ·rw [List.getElem?_append_right (by omega)] at b
     cases p with
     | none=>cases g
     | some a=>
      obtain rfl:=Option.some.inj (show some (a.add (k*sz))=some l from g)
      have:=q _ v b
      rw [nU,d] at this
      rw [show k*sz+(i-k*sz)=i by omega] at this
      exact ⟨a,rfl,this⟩
   ·have:=e.snoc (sp:=[]) j o hs
    rw [r,List.append_nil,List.take_of_length_le (by omega)] at this
    rw [List.take_add_one,List.getElem?_eq_getElem (by omega)]
    exact this
 obtain ⟨xs,f,d,e⟩:=step ls.length (Nat.le_refl _)
 rw [List.take_length] at e
 exact ⟨xs,f,d,e⟩
theorem row_append {α:Type}{sz:Nat}{R:View->Value->α->Prop}{V:View}{vs xs sp:List Value}{ls ms:List α}(h:Row sz R V vs ls)(h':Row sz R V xs ms)(hs:0<sz):Row sz R V (vs.take (ls.length*sz)++xs++sp) (ls++ms):=by
 have q:=h.kl hs
 have o:=h'.kl hs
 have n:(vs.take (ls.length*sz)).length=ls.length*sz:=by rw [List.length_take];omega
 refine ⟨fun i p=>?_⟩
 by_cases c:i<ls.length
 ·obtain ⟨d,f,g,k⟩:=h.at_ i c
  refine ⟨d,f,by rw [List.getElem_append_left c];exact g,fun j x a=>?_⟩
  have l:=(List.getElem?_eq_some_iff.1 a).1
  have b:i*sz+j<ls.length*sz:=by
   have:(i+1)*sz<=ls.length*sz:=Nat.mul_le_mul_right _ c
   rw [Nat.succ_mul] at this
   omega
  rw [List.append_assoc,List.getElem?_append_left (by omega),List.getElem?_take,if_pos b]
  exact k j x a
 ·rw [List.length_append] at p
  obtain ⟨m,rfl⟩:∃m,i=ls.length+m:=⟨i-ls.length,by omega⟩
  have hm:m<ms.length:=by omega
  obtain ⟨d,f,g,k⟩:=h'.at_ m hm
  refine ⟨d,f,?_,fun j x a=>?_⟩
  ·have e:(ls++ms)[ls.length+m]=ms[m]:=by rw [List.getElem_append_right (by omega)];simp
   rw [e];exact g
  ·have l:=(List.getElem?_eq_some_iff.1 a).1
   have b:m*sz+j<xs.length:=by
    have:(m+1)*sz<=ms.length*sz:=Nat.mul_le_mul_right _ hm
    rw [Nat.succ_mul] at this
    omega
   rw [List.append_assoc,List.getElem?_append_right (by rw [n,Nat.add_mul];omega),n,Nat.add_mul,List.getElem?_append_left (by omega)]
   rw [show ls.length*sz+m*sz+j-ls.length*sz=m*sz+j by omega]
   exact k j x a
theorem row_one_cell {α:Type}{sz:Nat}{R:View->Value->α->Prop}{V:View}{vs:List Value}{al:List α}(h:Row sz R V vs al)(hs:0<sz)(hc:∀xs a,R V (.agg (List.toArray xs)) a->∀v∈xs,v.oneCell'=true){m:Nat}(hm:m<al.length*sz){v:Value}(hv:vs[m]?=some v):v.oneCell'=true:=by
 have d:m / sz<al.length:=Nat.div_lt_of_lt_mul (by rw [Nat.mul_comm];exact hm)
 obtain ⟨xs,e,f,c⟩:=h.at_ (m / sz) d
 have b:m%sz<xs.length:=by rw [e];exact Nat.mod_lt _ hs
 have g:m=m / sz*sz+m%sz:=by rw [Nat.mul_comm];exact (Nat.div_add_mod m sz).symm
 have:=c (m%sz) _ (List.getElem?_eq_getElem b)
 rw [←g,hv] at this
 obtain rfl:=Option.some.inj this
 exact hc xs _ f _ (List.getElem_mem b)
theorem ER {α:Type}{sz:Nat}{R:View->Value->α->Prop}{V:View}{w1 w2:Nat}{us:List Value}{O:List α}(hg:GR sz R V w1 w2 us O)(hs:0<sz)(one:∀xs a,R V (.agg (List.toArray xs)) a->∀v∈xs,v.oneCell'=true){bk:Nat}{ty:TypeId}{m:Nat×Nat}(hb:us≠[]->V.aW bk (.cells us.toArray ty m))
  {es:List Value}{x:α}(he:es.length=sz)(hx:R V (.agg es.toArray) x){j:Nat}(jle:j<=w1) :
  ∃xs ys:List Value,V.sl (jR (mA bk w2) w2 j sz) xs/\xs.length=(w1-j)*sz/\(∀v∈xs,v.oneCell'=true)/\V.sl (mA bk w2) ys/\ys.length=j*sz/\((mA bk w2).isNone=true->j=0) /\
   (∀sp:List Value,rowTake (es.take (1*sz)++xs++sp) 0 ((1+(w1-j))*sz)=es++xs)/\(es++xs).length / sz=1+(w1-j)/\(es++xs).length=(1+(w1-j))*sz/\(∀v∈es++xs,v.oneCell'=true) /\
   ∀(sp:List Value)(c':Nat),j+(1+(w1-j))<=c'->c'*sz<=(j+(1+(w1-j)))*sz+sp.length->GR sz R V (j+(1+(w1-j))) c' (ys++(es++xs)++sp) (O.take j++x::O.drop j):=by
 have n:=hg.len
 have s:=hg.le
 have o:=hg.cap
 have p:=hg.row
 have A:w1*sz<=w2*sz:=Nat.mul_le_mul_right _ s
 have B:j*sz<=w1*sz:=Nat.mul_le_mul_right _ jle
 have C:(w1-j)*sz=w1*sz-j*sz:=Nat.sub_mul ..
 have t:(1+(w1-j))*sz=sz+(w1-j)*sz:=by rw [Nat.add_mul,Nat.one_mul]
 have t1:(us.take (j*sz)).length=j*sz:=by rw [List.length_take];omega
 have t2:((us.take (w1*sz)).drop (j*sz)).length=(w1-j)*sz:=by rw [List.length_drop,List.length_take];omega
 have q:∀v∈(us.take (w1*sz)).drop (j*sz),v.oneCell'=true:=by
  intro v g
  obtain ⟨k,hm,e⟩:=List.mem_iff_getElem.1 (List.mem_of_mem_drop g)
  have d:k<w1*sz:=by rw [List.length_take] at hm;omega
  have:=List.getElem?_eq_getElem hm
  rw [e,List.getElem?_take,if_pos d] at this
  exact row_one_cell p hs one (by rw [←n];exact d) this
 have f:0<w2->us≠[]:=fun hw e=>by
  have:0<w2*sz:=Nat.mul_pos hw hs
  rw [e] at o;simp at o;omega
 have i:0<w2->mA bk w2=some ⟨bk,0,none⟩:=fun hw=>by unfold mA;rw [if_neg (by omega)]
 have at_:∀k v,0<w2->us[k]?=some v->V.at ⟨bk,k,none⟩ v:=fun k v hm g=>blk_at (hb (f hm)) g
 have u:∀v∈es,v.oneCell'=true:=one _ _ hx
 have b:(es++(us.take (w1*sz)).drop (j*sz)).length=(1+(w1-j))*sz:=by rw [List.length_append,t2,he,t]
 refine ⟨(us.take (w1*sz)).drop (j*sz),us.take (j*sz),?_,t2,q,?_,t1,?_,fun sp=>?_,by rw [b];exact Nat.mul_div_cancel _ hs,b,fun v w=>(List.mem_append.1 w).elim (u v) (q v),fun sp c' y D=>?_⟩
 ·intro k v hm
  have c:=(List.getElem?_eq_some_iff.1 hm).1
  rw [t2] at c
  rw [List.getElem?_drop,List.getElem?_take,if_pos (by omega)] at hm
  have E:j<w2:=by
   rcases Nat.lt_or_ge j w2 with h|h
   ·exact h
   ·have:w1-j=0:=by omega
    rw [this,Nat.zero_mul] at c;omega
  have:=at_ (j*sz+k) v (by omega) hm
  refine ⟨⟨bk,j*sz,none⟩,?_,?_⟩
  ·unfold jR
   rw [if_neg (by omega),i (by omega)]
   simp [addrAdd,add_zero']
  ·rw [←add_zero',nU,add_zero'];exact this
 ·intro k v hm
  have c:=(List.getElem?_eq_some_iff.1 hm).1
  rw [t1] at c
  rw [List.getElem?_take,if_pos c] at hm
  have hw:0<w2:=by
   rcases Nat.eq_zero_or_pos w2 with h|h
   ·have:j=0:=by omega
    rw [this,Nat.zero_mul] at c;omega
   ·exact h
  exact ⟨⟨bk,0,none⟩,i hw,by rw [add_zero'];exact at_ k v hw hm⟩
 ·intro r
  by_cases hw:0<w2
  ·rw [i hw] at r;cases r
  ·omega
 ·have z:es.take (1*sz)=es:=by rw [Nat.one_mul,←he,List.take_length]
  rw [z]
  unfold rowTake
  rw [Nat.ble_eq_true_of_le (by rw [List.length_append,b];omega),cond_true,List.drop_zero,List.take_append_of_le_length (by rw [b];exact Nat.le_refl _),List.take_of_length_le (by rw [b];exact Nat.le_refl _)]
 ·have l:j<=O.length:=by omega
  refine ⟨by rw [List.length_append,List.length_take,List.length_cons,List.length_drop];omega,y,?_,?_⟩
  ·have F:(j+(1+(w1-j)))*sz=j*sz+(1+(w1-j))*sz:=Nat.add_mul ..
   rw [List.length_append,List.length_append,t1,b]
   omega
  ·rw [n]
   exact uP p l he hx hs
theorem aM {V:View}{p:OA}{n c:Nat}{ds:List Nat}(h:RD V p n c ds)(hm:ds.length<=4611686018427387904) :
  Acts prog 221 #[.slice p n c] V fun r V'=>∃k,r=.slice p k c/\RD V' p k c (bR ds):=by
 refine CI p n c V _ ?_
 refine ⟨fun z V'=>z.1=p/\z.2.2=c/\z.2.1<=ds.length/\bR (ds.take z.2.1)=bR ds/\RD V' p z.2.1 c (ds.take z.2.1),fun z=>z.2.1,⟨(p,n,c),⟨rfl,rfl,rfl⟩,rfl,rfl,?_⟩,?_⟩
 ·have:=h.len;subst this;simp;exact h
 ·rintro ⟨q,k,i⟩ l m ⟨rfl,rfl,j,e,d⟩
  dsimp only at j e d ⊢
  refine ⟨rfl,fun a=>?_,fun a=>?_⟩
  ·have a:0<k:=by simpa using a
   simp (disch:=omega) only [i64w]
   have o:(ds.take k).length=k:=by simp;omega
   have f:ds.take k=ds.take (k-1)++[ds[k-1]]:=by rw [←List.take_succ_eq_append_getElem (by omega),Nat.sub_add_cancel a]
   refine d.rd (k-1) (by omega) (by omega) ⟨fun b=>?_,fun b=>?_⟩
   ·have b:ds[k-1]=0:=by simpa using b
    refine ⟨⟨by omega,by have:=d.cap;omega⟩,(q,k-1,i),by dsimp only;omega,⟨rfl,by dsimp only;omega,rfl⟩,rfl,rfl,by dsimp only;omega,?_,?_⟩
    ·dsimp only
     rw [←e,f,b,f_]
    ·have:=d.take (k:=k-1) (by omega)
     dsimp only
     rwa [List.take_take,Nat.min_eq_left (by omega)] at this
   ·have b:ds[k-1]≠0:=by simpa using b
    refine fun V2 g=>⟨k,rfl,?_⟩
    rw [←e,f,nE _ _ b,←f]
    exact d.le g
  ·have a:k=0:=by simpa using a
   subst a
   refine fun V2 g=>⟨0,rfl,?_⟩
   rw [←e]
   exact d.le g
theorem kT {V:View}{p:OA}{n c:Nat}{ds:List Nat}(h:RD V p n c ds)(hm:ds.length<=1099511627776) :
  Acts prog 223 #[.slice p n c] V fun r V'=>∃q k c',r=.slice q k c'/\RD V' q k c' ds:=by
 have g:=h.len
 refine sH p n c V _ ⟨fun f m o=>⟨_,_,_,rfl,?_⟩,fun f=>⟨ay ds,h.sl,by simp [g],by omega,by omega,by simp,by simp [g],?_,?_⟩⟩
 ·have f:p=none:=by simpa using f
  subst f
  have:ds=[]:=by
   rcases Nat.eq_zero_or_pos ds.length with e|e
   ·exact List.length_eq_zero_iff.1 e
   ·obtain ⟨s,e,-⟩:=h.sl 0 _ (fm e)
    cases e
  subst this;exact RD.nil
 ·intro v a
  simp only [ay,List.mem_map] at a
  obtain ⟨d,-,rfl⟩:=a
  rfl
 ·intro t J sp c' j u m o b l
  refine ⟨_,_,_,rfl,?_⟩
  simp only [Nat.zero_add,Nat.zero_mul,List.take_zero,List.nil_append] at l j ⊢
  exact ⟨g,j,fun i v a=>⟨_,rfl,by rw [add_zero'];exact blk_at l (by rw [List.getElem?_append_left (by rcases Nat.lt_or_ge i (ay ds).length with e|e;exact e;rw [List.getElem?_eq_none e] at a;cases a)];exact a)⟩,h.eI,fun e=>nomatch e⟩
abbrev RN (V:View)(p:OA)(n c:Nat)(x:Nat):Prop:=RD V p n c (af x)
theorem hU {V:View}{p:OA}{n c:Nat}{ds:List Nat}(h:RD V p n c ds)(hm:ds.length<=1099511627776) :
  Acts prog 187 #[.slice p n c] V fun r V'=>∃q k c',r=.slice q k c'/\RN V' q k c' (val ds):=by
 refine CE p n c V _ fun g a=>(aM (h.le a) (by omega)).mono ?_
 rintro r V2 i ⟨k,rfl,b⟩
 refine ⟨_,_,_,rfl,fun j d=>(kT (b.le d) (by have:=jS ds;omega)).mono ?_⟩
 rintro r l m ⟨q,o,c',rfl,e⟩
 refine ⟨_,_,_,rfl,fun s f=>⟨_,_,_,rfl,?_⟩⟩
 unfold RN
 rw [←aJ h.eI]
 exact e.le f
theorem yQ {V:View}{p:OA}{n c:Nat}{ds:List Nat}(h:RD V p n c ds)(hm:ds.length<=1099511627776) :
  Acts prog 203 #[.slice p n c] V fun r V'=>r=.bool (decide (af (val ds)=ds)):=by
 have d:=h.len
 refine wR p n c V _ ⟨fun a e f=>?_,fun a=>?_⟩
 ·have:ds=[]:=List.length_eq_zero_iff.1 (by simp at a;omega)
  subst this;rfl
 ·have a:0<n:=by simp at a;omega
  simp (disch:=omega) only [i64w]
  refine h.rd (n-1) (by omega) (by omega) fun e f=>?_
  congr 1
  rw [Bool.eq_iff_iff]
  simp only [bne_iff_ne,ne_eq,decide_eq_true_eq]
  subst d
  constructor
  ·intro b
   exact tQ h.eI (BU fun _=>by simpa using b)
  ·intro he b
   have:rK ds:=by rw [←he];exact ir _
   exact this.last (by omega) (by simpa using b)
theorem di {V:View}(u:Int)(h0:0<=u)(h1:u<18446744073709551616) :
  Acts prog 220 #[.int .u64 u] V fun r V'=>∃q k c',r=.slice q k c'/\RN V' q k c' u.toNat:=by
 obtain ⟨u,rfl⟩:=Int.eq_ofNat_of_zero_le h0
 refine sC _ V _ ⟨by omega,fun e h f a=>?_⟩
 rw [kF,gI,oY (by omega)] at a
 have a:e.aW f (.cells (ay [u%4294967296,u / 4294967296]).toArray 225 (0,0)):=by
  simpa [ay] using a
 have d:bI [u%4294967296,u / 4294967296]:=by simp [bI];omega
 refine (aM (RD.aW a d (n:=2) (c:=2) rfl (Nat.le_refl _)) (by simp)).mono ?_
 rintro r V2 i ⟨k,rfl,b⟩
 refine ⟨_,_,_,rfl,fun _ j g=>⟨_,_,_,rfl,?_⟩⟩
 rw [aJ d] at b
 have:val [u%4294967296,u / 4294967296]=(u:Int).toNat:=by simp;omega
 rw [this] at b
 exact b.le g
theorem xF {V:View}{p q:OA}{n c m e:Nat}{xa xb:List Nat}(ha:RD V p n c xa)(hb:RD V q m e xb)(hm:xa.length<=1099511627776)(hn:xb.length<=1099511627776) :
  Acts prog 222 #[.slice p n c,.slice q m e] V fun r V'=>r=.int .i64 (jC (val xa) (val xb)):=by
 have la:=jS xa
 have lb:=jS xb
 refine Ec p n c q m e V _ fun J w=>(aM (ha.le w) (by omega)).mono ?_
 rintro r V2 D ⟨n,rfl,g⟩
 refine ⟨_,_,_,rfl,fun K A=>(aM (hb.le (w.trans (D.trans A))) (by omega)).mono ?_⟩
 rintro r L E ⟨m,rfl,j⟩
 refine ⟨_,_,_,rfl,?_⟩
 replace g:=g.le (A.trans E)
 rw [aJ ha.eI] at g la
 rw [aJ hb.eI] at j lb
 generalize val xa=x at *
 generalize val xb=y at *
 have F:=g.len
 have G:=j.len
 refine ⟨fun h=>⟨fun d B C=>?_,fun d B C=>?_⟩,fun h=>?_⟩
 ·have:=jI (a:=x) (b:=y) (by simp at d;omega)
  rw [jC,if_pos this]
 ·have:=jI (a:=y) (b:=x) (by simp at h d;omega)
  rw [jC,if_neg (by omega),if_pos this]
 ·have h:n=m:=by simp at h;omega
  subst h
  simp (disch:=omega) only [i64w]
  refine ⟨fun z V'=>-1<=z/\z<n/\(af x).drop (z+1).toNat=(af y).drop (z+1).toNat,fun z=>(z+1).toNat,⟨_,by (try dsimp only);and_intros<;>trivial,by (try dsimp only);omega,by (try dsimp only);omega,?_⟩,?_⟩
  ·(try dsimp only)
   rw [List.drop_of_length_le (by omega),List.drop_of_length_le (by omega)]
  ·rintro i M k ⟨o,s,t⟩
   dsimp only at o s t ⊢
   refine ⟨by trivial,fun d=>?_,fun d B C=>?_⟩
   ·have d:0<=i:=by simpa using d
    obtain ⟨i,rfl⟩:=Int.eq_ofNat_of_zero_le d
    simp (disch:=omega) only [i64w]
    have f:(af x).drop (i+1)=(af y).drop (i+1):=t
    refine (g.le k).rd i rfl (by omega) ((j.le k).rd i rfl (by omega) ⟨fun u H I=>?_,fun u=>?_⟩)
    ·have:=iU (ax x) (by omega) (by omega) f (by simpa using u)
     rw [ab,ab] at this
     rw [jC,if_pos this]
    ·refine (g.le k).rd i rfl (by omega) ((j.le k).rd i rfl (by omega) ⟨fun v H I=>?_,fun v=>?_⟩)
     ·have:=iU (ax y) (by omega) (by omega) f.symm (by simpa using v)
      rw [ab,ab] at this
      rw [jC,if_neg (by omega),if_pos this]
     ·refine ⟨_,?_,by (try dsimp only);and_intros<;>trivial,?_,?_,?_⟩
      ·(try dsimp only);omega
      ·(try dsimp only);omega
      ·(try dsimp only);omega
      ·(try dsimp only)
       have:((i:Int)-1+1).toNat=i:=by omega
       rw [this,List.drop_eq_getElem_cons (by omega),List.drop_eq_getElem_cons (l:=af y) (by omega),f]
       congr 1
       simp at u v
       omega
   ·have d:i=-1:=by simp at d;omega
    subst d
    have:af x=af y:=by simpa using t
    have:=tP this
    subst this
    simp [jC]
theorem te {E A B c d x y W:Nat}(h:E+W*c=A+B)(hd:d=c+x+y):E+W*(d%4294967296)+W*4294967296*(d / 4294967296)=A+W*x+(B+W*y):=by
 have a:W*(d%4294967296)+W*4294967296*(d / 4294967296)=W*d:=by
  rw [Nat.mul_assoc,←Nat.mul_add,Nat.mod_add_div]
 rw [Nat.add_assoc,a,hd,Nat.mul_add,Nat.mul_add]
 omega
theorem Fv {V:View}{p q:OA}{n c m e:Nat}{xa xb:List Nat}(ha:RD V p n c xa)(hb:RD V q m e xb)(hm:xa.length<=1099511627776)(hn:xb.length<=1099511627776) :
  Acts prog 243 #[.slice p n c,.slice q m e] V fun r V'=>∃p' n' c',r=.slice p' n' c'/\RN V' p' n' c' (val xa+val xb):=by
 have B:=ha.len
 have C:=hb.len
 refine Eb p n c q m e V _ ⟨fun z V'=>∃xs b,RD V' z.1 z.2.1 z.2.2.1 xs/\RD V' z.2.2.2.1 z.2.2.2.2.1 z.2.2.2.2.2 b/\b.length<=xs.length/\xs.length<=1099511627776/\val xs+val b=val xa+val xb,⟨fun D=>?_,fun D=>?_⟩,?_⟩
 ·exact ⟨(_,_,_,_,_,_),by (try dsimp only);and_intros<;>trivial,xb,xa,hb,ha,by simp at D;omega,hn,by omega⟩
 ·exact ⟨(_,_,_,_,_,_),by (try dsimp only);and_intros<;>trivial,xa,xb,ha,hb,by simp at D;omega,hm,rfl⟩
 ·rintro ⟨p,n,c,q,m,e⟩ O P ⟨xs,b,x,A,Q,hm,h⟩
  dsimp only at x A ⊢
  rw [←h]
  clear h ha hb B C
  have L:=x.len
  have R:=A.len
  simp (disch:=omega) only [i64w,cq]
  have E:((n:Int)+1).toNat=n+1:=by omega
  rw [E]
  refine ⟨by trivial,by omega,by omega,by omega,fun z V'=>0<=z.1/\z.1<=1/\0<=z.2.1/\z.2.1<=n/\∃es:List Nat,z.2.2=ay es/\es.length=n+1/\bI es /\
   val (es.take z.2.1.toNat)+4294967296^z.2.1.toNat*z.1.toNat=val (xs.take z.2.1.toNat)+val (b.take z.2.1.toNat),fun z=>n-z.2.1.toNat,⟨(0,0,ay (List.replicate (n+1) 0)),by (try dsimp only);and_intros<;>trivial,by (try dsimp only);omega,by (try dsimp only);omega,by (try dsimp only);omega,by (try dsimp only);omega,_,rfl,by simp,bI.rep _,by simp⟩,?_⟩
  rintro ⟨f,i,S⟩ V2 K ⟨o,F,s,G,es,rfl,H,t,h⟩
  dsimp only at o F s G h ⊢
  obtain ⟨i,rfl⟩:=Int.eq_ofNat_of_zero_le s
  obtain ⟨f,rfl⟩:=Int.eq_ofNat_of_zero_le o
  simp only [Int.toNat_natCast] at h
  refine ⟨by trivial,fun l=>?_,fun l=>?_⟩
  ·have l:i<n:=by simpa using l
   refine (x.le K).rd i rfl (by omega) ?_
   have T:=x.eI.get (i:=i) (by omega)
   have next:∀d:Nat,d<8589934592->val (es.take i)+4294967296^i*(d%4294967296)+4294967296^i*4294967296*(d / 4294967296)=val (xs.take (i+1))+val (b.take (i+1)) ->
     ∃a:List Nat,(ay es).set i (.int .u32 ((d%4294967296:Nat):Int))=ay a/\a.length=n+1/\bI a /\
     val (a.take (i+1))+4294967296^(i+1)*(d / 4294967296)=val (xs.take (i+1))+val (b.take (i+1)):=by
    intro d U he
    refine ⟨es.set i (d%4294967296),aZ _ _ _,by simpa using H,t.set _ _ (by omega),?_⟩
    rw [aE _ _ _ (by omega),Nat.pow_succ]
    exact he
   refine ⟨fun g=>?_,fun g=>?_⟩
   ·have g:i<m:=by simpa using g
    refine (A.le K).rd i rfl (by omega) ?_
    have M:=A.eI.get (i:=i) (by omega)
    simp (disch:=omega) only [aH,i64w,gI,kF]
    refine ⟨⟨by omega,by omega⟩,by simp;omega,by omega,(_,_,_),?_,by (try dsimp only);and_intros<;>trivial,?_⟩
    ·(try dsimp only);omega
    ·(try dsimp only)
     have j:((i:Int)+1).toNat=i+1:=by omega
     obtain ⟨a,u,v,I,J⟩:=next (f+xs[i]+b[i]) (by omega) (by rw [aq _ _ (by omega),aq _ _ (by omega)];exact te h rfl)
     refine ⟨by omega,by omega,by omega,by omega,a,?_,v,I,?_⟩
     ·rw [←u];simp
     ·rw [j,←J];congr 2
   ·have g:m<=i:=by simpa using g
    simp (disch:=omega) only [aH,i64w,gI,kF]
    refine ⟨⟨by omega,by omega⟩,by simp;omega,by omega,(_,_,_),?_,by (try dsimp only);and_intros<;>trivial,?_⟩
    ·(try dsimp only);omega
    ·(try dsimp only)
     have j:((i:Int)+1).toNat=i+1:=by omega
     obtain ⟨a,u,v,I,J⟩:=next (f+xs[i]) (by omega) (by
      rw [aq _ _ (by omega),ai (ds:=b) (i:=i+1) (by omega)]
      have:=te (y:=0) h (d:=f+xs[i]) rfl
      rwa [ai (ds:=b) (by omega),Nat.mul_zero,Nat.add_zero] at this)
     refine ⟨by omega,by omega,by omega,by omega,a,?_,v,I,?_⟩
     ·rw [←u];simp
     ·rw [j,←J];congr 2
  ·have l:i=n:=by simp at l;omega
   subst l
   simp (disch:=omega) only [oY]
   refine ⟨⟨by omega,by omega⟩,by simp;omega,fun W X Y hb=>?_⟩
   have u:(ay es).set (0+((i:Int).toNat)*1) (.int .u32 (f:Int))=ay (es.set i f):=by rw [←aZ];simp
   rw [u] at hb
   have w:=t.set i f (by omega)
   refine (aM (RD.aW hb w (n:=i+1) (c:=i+1) (by simp;omega) (Nat.le_refl _)) (by simp;omega)).mono ?_
   rintro r Z l4 ⟨k,rfl,g⟩
   refine ⟨_,_,_,rfl,fun _ V5 N=>⟨_,_,_,rfl,?_⟩⟩
   rw [aJ w] at g
   have v:val (es.set i f)=val xs+val b:=by
    have:=aE es i f (by omega)
    rw [ai (by simp;omega)] at this
    rw [this,h,ai (by omega),ai (by omega)]
   rw [v] at g
   exact g.le N
theorem IW {E A B c x y W:Nat}(h:E+B=A+W*c){v:Int}(hc:c<=1)(hx:x<4294967296)(hy:y<4294967296)(hv:v=((x:Int)-(c+y))%18446744073709551616) :
  0<=v/\v / 9223372036854775808<=1/\0<=v / 9223372036854775808/\E+W*(v%4294967296).toNat+(B+W*y)=A+W*x+W*4294967296*(v / 9223372036854775808).toNat:=by
 rcases Nat.lt_or_ge x (c+y) with d|d
 ·have e:v=18446744073709551616+(x:Int)-(c+y):=by omega
  have a:(v / 9223372036854775808).toNat=1:=by omega
  have b:(v%4294967296).toNat+(c+y)=x+4294967296:=by omega
  refine ⟨by omega,by omega,by omega,?_⟩
  rw [a,Nat.mul_one]
  have:=congrArg (W*·) b
  simp only [Nat.mul_add] at this
  omega
 ·have e:v=(x:Int)-(c+y):=by omega
  have a:(v / 9223372036854775808).toNat=0:=by omega
  have b:(v%4294967296).toNat+(c+y)=x:=by omega
  refine ⟨by omega,by omega,by omega,?_⟩
  rw [a,Nat.mul_zero,Nat.add_zero]
  have:=congrArg (W*·) b
  simp only [Nat.mul_add] at this
  omega
theorem Dc {V:View}{p q:OA}{n c m e:Nat}{xs ys:List Nat}(hx:RD V p n c xs)(hy:RD V q m e ys)(hm:xs.length<=1099511627776)(hl:ys.length<=xs.length)(hle:val ys<=val xs) :
  Acts prog 247 #[.slice p n c,.slice q m e] V fun r V'=>∃p' n' c',r=.slice p' n' c'/\RN V' p' n' c' (val xs-val ys):=by
 have D:=hx.len
 have O:=hy.len
 refine CG p n c q m e V _ ⟨by omega,by omega,by omega,fun z V'=>0<=z.1/\z.1<=1/\0<=z.2.1/\z.2.1<=n/\∃es:List Nat,z.2.2=ay es/\es.length=n/\bI es /\
   val (es.take z.2.1.toNat)+val (ys.take z.2.1.toNat)=val (xs.take z.2.1.toNat)+4294967296^z.2.1.toNat*z.1.toNat,fun z=>n-z.2.1.toNat,
   ⟨(0,0,List.replicate n (.int .u32 0)),by (try dsimp only);and_intros<;>trivial,by (try dsimp only);omega,by (try dsimp only);omega,by (try dsimp only);omega,by (try dsimp only);omega,List.replicate n 0,cq n,by simp,bI.rep _,by simp⟩,?_⟩
 rintro ⟨j,i,P⟩ V2 B ⟨l,u,o,w,es,rfl,d,a,s⟩
 dsimp only at l u o w s ⊢
 obtain ⟨i,rfl⟩:=Int.eq_ofNat_of_zero_le o
 obtain ⟨j,rfl⟩:=Int.eq_ofNat_of_zero_le l
 simp only [Int.toNat_natCast] at s
 refine ⟨by trivial,fun f=>?_,fun f=>?_⟩
 ·have f:i<n:=by simpa using f
  refine (hx.le B).rd i rfl (by omega) ?_
  have E:=hx.eI.get (i:=i) (by omega)
  refine ⟨fun z V'=>∃y:Nat,z=j+y/\y<4294967296/\val (ys.take (i+1))=val (ys.take i)+4294967296^i*y,⟨fun b=>?_,fun b=>?_⟩,?_⟩
  ·have b:i<m:=by simpa using b
   refine (hy.le B).rd i rfl (by omega) ?_
   have g:=hy.eI.get (i:=i) (by omega)
   simp (disch:=omega) only [aH]
   exact ⟨_,by (try dsimp only);and_intros<;>trivial,ys[i],rfl,g,aq _ _ (by omega)⟩
  ·have b:m<=i:=by simpa using b
   exact ⟨_,by (try dsimp only);and_intros<;>trivial,0,by simp,by omega,by rw [ai (by omega),ai (by omega)];simp⟩
  ·rintro t F G ⟨y,rfl,g,x⟩
   refine ⟨by trivial,⟨by omega,by simpa using f⟩,by simp;omega,by omega,?_⟩
   simp (disch:=omega) only [aH,i64w,qo,gI,IP]
   obtain ⟨v,C⟩:∃v:Int,v=((xs[i]:Int)-((j:Int)+(y:Int)))%18446744073709551616:=⟨_,rfl⟩
   obtain ⟨Q,H,I,J⟩:=IW s (by omega) E g C
   rw [←C]
   refine ⟨(_,_,_),?_,by (try dsimp only);and_intros<;>trivial,?_⟩
   ·(try dsimp only);omega
   ·(try dsimp only)
    have A:((i:Int)+1).toNat=i+1:=by omega
    refine ⟨I,H,by omega,by omega,es.set i (v%4294967296).toNat,?_,by simpa using d,a.set _ _ (by omega),?_⟩
    ·rw [←aZ]
     congr 2
     ·simp
     ·omega
    ·rw [A,aE _ _ _ (by omega),x,J,aq _ _ (by omega),Nat.pow_succ]
 ·have f:i=n:=by simp at f;omega
  subst f
  intro F G R K
  refine (aM (RD.aW K a (n:=i) (c:=i) d.symm (Nat.le_refl _)) (by omega)).mono ?_
  rintro r S T ⟨k,rfl,b⟩
  refine ⟨_,_,_,rfl,fun _ U L=>⟨_,_,_,rfl,?_⟩⟩
  rw [aJ a] at b
  rw [ai (by omega),ai (by omega),ai (by omega)] at s
  have M:=fq a
  rw [d] at M
  have N:j=0:=by
   rcases Nat.eq_zero_or_pos j with h|h
   ·exact h
   ·have:4294967296^i*1<=4294967296^i*j:=Nat.mul_le_mul_left _ h
    omega
  subst N
  rw [show val es=val xs-val ys from by omega] at b
  exact b.le L
theorem eZ {a b:Nat}:jC a b<0↔a<b:=by
 unfold jC
 split
 ·simp;omega
 ·split<;>simp<;>omega
theorem jD {a b:Nat}:jC a b=0↔a=b:=by
 unfold jC
 split
 ·simp;omega
 ·split
  ·simp;omega
  ·simp;omega
theorem xI {V:View}{p q:OA}{n c m e:Nat}{xa xb:List Nat}(ha:RD V p n c xa)(hb:RD V q m e xb)(hm:xa.length<=1099511627776)(hn:xb.length<=1099511627776) :
  Acts prog 244 #[.slice p n c,.slice q m e] V fun r V'=>∃p' n' c',r=.tuple #[.slice p' n' c',.bool (decide (val xb<=val xa))]/\RN V' p' n' c' (val xa-val xb):=by
 refine Eh p n c q m e V _ fun u b=>(xF (ha.le b) (hb.le b) hm hn).mono ?_
 rintro r V2 f rfl
 refine ⟨_,rfl,fun a l d=>?_,fun a l d=>?_⟩
 ·have a:val xa<val xb:=by simpa [eZ] using a
  rw [Nat.sub_eq_zero_of_le (by omega),decide_eq_false (by omega)]
  exact ⟨_,_,_,rfl,RD.nil⟩
 ·have a:val xb<=val xa:=by simpa [←Int.not_lt,eZ] using a
  rw [decide_eq_true a]
  refine (aM ((ha.le b).le (f.trans d)) (by omega)).mono ?_
  rintro r v o ⟨w,rfl,g⟩
  refine ⟨_,_,_,rfl,fun x h=>(aM ((hb.le b).le (f.trans (d.trans (o.trans h)))) (by omega)).mono ?_⟩
  rintro r y s ⟨z,rfl,i⟩
  rw [aJ ha.eI] at g
  rw [aJ hb.eI] at i
  have:=a_ ha.eI
  refine ⟨_,_,_,rfl,fun A j=>(Dc (g.le (h.trans (s.trans j))) (i.le j) (by omega) (aB a) (by rw [ab,ab];exact a)).mono ?_⟩
  rintro r B C ⟨p',n',c',rfl,k⟩
  rw [ab,ab] at k
  exact ⟨_,_,_,rfl,fun D t=>⟨_,_,_,rfl,k.le t⟩⟩
end Go.Proofs.Tryz
namespace Go.Big
def br (n:Nat):Nat:=if n=0 then 0 else n.log2+1
theorem oB (n:Nat):n<2^br n:=by
 unfold br;split
 ·subst_vars;decide
 ·exact Nat.lt_log2_self
theorem oA {n:Nat}(h:n≠0):2^(br n-1)<=n:=by
 unfold br;rw [if_neg h];exact Nat.log2_self_le h
theorem qH {n b:Nat}(h0:n<2^b)(h1:b=0\/2^(b-1)<=n):br n=b:=by
 rcases h1 with h1|h1
 ·subst h1;have:n=0:=by simpa using h0
  subst this;rfl
 ·have a:n≠0:=by have:=Nat.two_pow_pos (b-1);omega
  have c:=oB n
  have d:=oA a
  have e:¬br n<b:=fun h=>by have:=Nat.pow_le_pow_right (n:=2) (by omega) (show br n<=b-1 by omega);omega
  have f:¬b<br n:=fun h=>by have:=Nat.pow_le_pow_right (n:=2) (by omega) (show b<=br n-1 by omega);omega
  omega
theorem iI {n b:Nat}:br n<=b↔n<2^b:=by
 constructor
 ·intro h;exact Nat.lt_of_lt_of_le (oB n) (Nat.pow_le_pow_right (by omega) h)
 ·intro h
  rcases Nat.lt_or_ge b (br n) with a|a
  ·have c:n≠0:=by intro e;subst e;simp [br] at a
   have:=oA c
   have:=Nat.pow_le_pow_right (n:=2) (by omega) (show b<=br n-1 by omega)
   omega
  ·exact a
theorem tz {n k:Nat}(h:2^k<=n):br (n / 2^k)+k=br n:=by
 have a:=Nat.two_pow_pos k
 have b:n / 2^k≠0:=by have:=Nat.div_pos h a;omega
 have c:=oB (n / 2^k)
 have d:=oA b
 refine (qH ?_ (.inr ?_)).symm
 ·rw [Nat.pow_add];exact (Nat.div_lt_iff_lt_mul a).1 c
 ·have e:0<br (n / 2^k):=by unfold br;rw [if_neg b];omega
  rw [show br (n / 2^k)+k-1=br (n / 2^k)-1+k from by omega,Nat.pow_add]
  exact (Nat.le_div_iff_mul_le a).1 d
end Go.Big
namespace Go.Proofs.Tryz
open Go.Eng Go.Big
theorem e_ (a k:Nat):((a:Nat):Int).fdiv (2^k)=((a / 2^k:Nat):Int):=by
 rw [Int.fdiv_eq_ediv_of_nonneg _ (by have:=Int.pow_pos (n:=2) (m:=k) (by omega);omega)]
 simp
def J4:ByteArray:=⟨#[0,1,2,2,3,3,3,3,4,4,4,4,4,4,4,4,5,5,5,5,5,5,5,5,5,5,5,5,5,5,5,5,6,6,6,6,6,6,6,6,6,6,6,6,6,6,6,6,6,6,6,6,6,6,6,6,6,6,6,6,6,6,6,6,7,7,7,7,7,7,7,7,7,7,7,7,7,7,7,7,7,7,7,7,7,7,7,7,7,7,7,7,7,7,7,7,7,7,7,7,7,7,7,7,7,7,7,7,7,7,7,7,7,7,7,7,7,7,7,7,7,7,7,7,7,7,7,7,8,8,8,8,8,8,8,8,8,8,8,8,8,8,8,8,8,8,8,8,8,8,8,8,8,8,8,8,8,8,8,8,8,8,8,8,8,8,8,8,8,8,8,8,8,8,8,8,8,8,8,8,8,8,8,8,8,8,8,8,8,8,8,8,8,8,8,8,8,8,8,8,8,8,8,8,8,8,8,8,8,8,8,8,8,8,8,8,8,8,8,8,8,8,8,8,8,8,8,8,8,8,8,8,8,8,8,8,8,8,8,8,8,8,8,8,8,8,8,8,8,8,8,8,8,8,8,8]⟩
set_option maxRecDepth 10000 in
theorem Jr {V:View}(x:Nat)(hx:x<4294967296) :
  Acts prog 230 #[.int .u32 (x:Int)] V fun r V'=>r=.int .i64 (br x:Int):=by
 refine nL _ V _ ⟨fun z _=>∃y b:Nat,z=((y:Int),(b:Int))/\y<65536/\b<=16/\br x=br y+b,⟨fun a=>⟨by omega,?_⟩,fun a=>?_⟩,?_⟩
 ·rw [e_]
  have a:2^16<=x:=by simp at a;omega
  exact ⟨_,⟨rfl,rfl⟩,x / 2^16,16,rfl,by omega,by omega,(tz a).symm⟩
 ·exact ⟨_,⟨rfl,rfl⟩,x,0,rfl,by simp at a;omega,by omega,rfl⟩
 ·rintro _ h i ⟨y,b,rfl,d,f,e⟩
  rw [e];clear e
  refine ⟨by trivial,fun z _=>∃y' b':Nat,z=((y':Int),(b':Int))/\y'<256/\b'<=24/\br y+b=br y'+b',⟨fun a=>⟨by omega,?_⟩,fun a=>?_⟩,?_⟩
  ·dsimp only at a ⊢
   rw [e_]
   simp (disch:=omega) only [i64w]
   have a:2^8<=y:=by simp at a;omega
   exact ⟨(((y / 2^8:Nat):Int),(b:Int)+8),⟨rfl,rfl⟩,y / 2^8,b+8,by simp,by omega,by omega,by have:=tz a;omega⟩
  ·exact ⟨_,⟨rfl,rfl⟩,y,b,rfl,by simp at a;omega,by omega,rfl⟩
  ·rintro _ V2 j ⟨y,b,rfl,d,f,e⟩
   rw [e];clear e
   have hw:IntKind.u8.wrap (y:Int)=y:=IntWalk.u8_in _ (by omega)
   dsimp only
   rw [hw]
   have c:(J4.size:Int)=256:=rfl
   refine ⟨by trivial,⟨by omega,by show (y:Int)<(J4.size:Int);rw [c];omega⟩,fun k l=>?_⟩
   show Value.int .i64 (i64.wrap (b+i64.wrap ((J4.data.toList.getD (y:Int).toNat 0).toNat:Int)))=_
   congr 1
   have key:∀y:Nat,y<256->(J4.data.toList.getD y 0).toNat=br y:=by decide +kernel
   have g:br y<=8:=iI.2 (by omega)
   have:=key y d
   rw [Int.toNat_natCast,this]
   simp (disch:=omega) only [i64w]
   omega
theorem fy {V:View}(x:Nat)(hx:x<4294967296) :
  Acts prog 194 #[.int .u32 (x:Int)] V fun r V'=>r=.int .i64 (32-(br x:Int)):=by
 refine gM _ V _ fun b c=>(Jr x hx).mono ?_
 rintro r V2 d rfl
 have a:br x<=32:=iI.2 (by omega)
 refine ⟨_,rfl,fun e f=>?_⟩
 simp (disch:=omega) only [i64w]
theorem Ey (a:Nat)(ha:a<18446744073709551616):aX .and .u64 (a:Int) 4294967295=((a%4294967296:Nat):Int):=by
 rw [aX,qo]
 have b:(BitVec.ofInt IntKind.u64.bits ((a:Nat):Int) &&& BitVec.ofInt IntKind.u64.bits 4294967295).toNat=a%4294967296:=by
  show (BitVec.ofInt 64 ((a:Nat):Int) &&& BitVec.ofInt 64 ((4294967295:Nat):Int)).toNat=_
  rw [BitVec.ofInt_natCast,BitVec.ofInt_natCast,BitVec.toNat_and,BitVec.toNat_ofNat,BitVec.toNat_ofNat,Nat.mod_eq_of_lt (by omega),Nat.mod_eq_of_lt (by omega)]
  have:=Nat.and_two_pow_sub_one_eq_mod a 32
  exact this
 rw [b]
 omega
theorem BS (a b c d:Nat)(ha:a<4294967296)(hb:b<4294967296)(hc:c<4294967296)(hd:d<4294967296) :
  a*c+(a*d+b*d / 4294967296) / 4294967296+((a*d+b*d / 4294967296)%4294967296+b*c) / 4294967296=(a*4294967296+b)*(c*4294967296+d) / 18446744073709551616 /\
  a*c<=18446744065119617025/\a*d<=18446744065119617025/\b*c<=18446744065119617025/\b*d<=18446744065119617025:=by
 have f:a*c<=4294967295*4294967295:=Nat.mul_le_mul (by omega) (by omega)
 have g:a*d<=4294967295*4294967295:=Nat.mul_le_mul (by omega) (by omega)
 have h:b*c<=4294967295*4294967295:=Nat.mul_le_mul (by omega) (by omega)
 have i:b*d<=4294967295*4294967295:=Nat.mul_le_mul (by omega) (by omega)
 have e:(a*4294967296+b)*(c*4294967296+d)=(a*c)*18446744073709551616+(a*d)*4294967296+(b*c)*4294967296+b*d:=by grind
 rw [e]
 generalize a*c=p at *
 generalize a*d=q at *
 generalize b*c=r at *
 generalize b*d=s at *
 refine ⟨by omega,by omega,by omega,by omega,by omega⟩
theorem Js {V:View}(x y:Nat)(hx:x<18446744073709551616)(hy:y<18446744073709551616) :
  Acts prog 241 #[.int .u64 (x:Int),.int .u64 (y:Int)] V fun r V'=>r=.tuple #[.int .u64 ((x*y / 18446744073709551616:Nat):Int),.int .u64 ((x*y%18446744073709551616:Nat):Int)]:=by
 refine nM _ _ V _ ⟨by omega,by omega,by omega,by omega,by omega,fun v w=>?_⟩
 have p:=BS (x / 4294967296) (x%4294967296) (y / 4294967296) (y%4294967296) (by omega) (by omega) (by omega) (by omega)
 rw [Nat.div_add_mod' x 4294967296,Nat.div_add_mod' y 4294967296] at p
 obtain ⟨f,z,A,B,C⟩:=p
 have e:u64.wrap ((x:Int)*y)=((x*y%18446744073709551616:Nat):Int):=by rw [qo];simp
 rw [e,Ey x hx,Ey y hy,kF,kF]
 rw [←f]
 have g:((x:Int) / 4294967296)*((y:Int) / 4294967296)=((x / 4294967296*(y / 4294967296):Nat):Int):=by simp
 have h:((x:Int) / 4294967296)*((y%4294967296:Nat):Int)=((x / 4294967296*(y%4294967296):Nat):Int):=by simp
 have i:((x%4294967296:Nat):Int)*((y:Int) / 4294967296)=((x%4294967296*(y / 4294967296):Nat):Int):=by simp
 have j:((x%4294967296:Nat):Int)*((y%4294967296:Nat):Int)=((x%4294967296*(y%4294967296):Nat):Int):=by simp
 rw [g,h,i,j]
 generalize x / 4294967296*(y / 4294967296)=a at *
 generalize x / 4294967296*(y%4294967296)=b at *
 generalize x%4294967296*(y / 4294967296)=c at *
 generalize x%4294967296*(y%4294967296)=d at *
 simp only [kF]
 have k:u64.wrap (d:Int)=d:=aH (by omega)
 have l:u64.wrap (b:Int)=b:=aH (by omega)
 have m:u64.wrap (c:Int)=c:=aH (by omega)
 have n:u64.wrap (a:Int)=a:=aH (by omega)
 rw [k,l,m,n]
 have o:u64.wrap ((b:Int)+d / 4294967296)=((b+d / 4294967296:Nat):Int):=by rw [aH (by omega)];omega
 rw [o,Ey _ (by omega)]
 have q:u64.wrap (((b+d / 4294967296)%4294967296:Nat)+(c:Int))=(((b+d / 4294967296)%4294967296+c:Nat):Int):=by rw [aH (by omega)];omega
 rw [q]
 have s:x*y / 18446744073709551616<18446744073709551616:=by
  have:x*y<18446744073709551616*18446744073709551616:=Nat.mul_lt_mul'' hx hy
  omega
 have t:u64.wrap ((a:Int)+((b+d / 4294967296:Nat):Int) / 4294967296)=((a+(b+d / 4294967296) / 4294967296:Nat):Int):=by
  rw [aH (by omega)];omega
 rw [t]
 have u:u64.wrap (((a+(b+d / 4294967296) / 4294967296:Nat):Int)+(((b+d / 4294967296)%4294967296+c:Nat):Int) / 4294967296)=((a+(b+d / 4294967296) / 4294967296+((b+d / 4294967296)%4294967296+c) / 4294967296:Nat):Int):=by
  rw [aH (by omega)];omega
 rw [u]
theorem Jp {V:View}(x y c:Nat)(hx:x<4294967296)(hy:y<4294967296)(hc:c<4294967296) :
  Acts prog 192 #[.int .u32 (x:Int),.int .u32 (y:Int),.int .u32 (c:Int)] V fun r V'=>r=.tuple #[.int .u32 (((x+y+c)%4294967296:Nat):Int),.int .u32 (((x+y+c) / 4294967296:Nat):Int)]:=by
 refine nJ _ _ _ V _ ⟨by omega,fun d e=>?_⟩
 simp (disch:=omega) only [aH,gI,kF]
 have a:((x:Int)+y+c)%4294967296=(((x+y+c)%4294967296:Nat):Int):=by omega
 have b:((x:Int)+y+c) / 4294967296%4294967296=(((x+y+c) / 4294967296:Nat):Int):=by omega
 rw [a,b]
theorem Ii (a b:Nat)(ha:a<4294967296)(hb:b<4294967296):aX .or .u64 (b:Int) ((a:Int)*4294967296)=(b:Int)+(a:Int)*4294967296:=by
 have h:aX .or .u64 (b:Int) ((a:Int)*4294967296)=aX .or .u64 ((a:Int)*4294967296) (b:Int):=by
  simp only [aX,BitVec.or_comm]
 rw [h,B1 a b ha hb];omega
theorem PD (b:Nat)(hb:b<4294967296):aX .or .u64 0 (b:Int)=b:=by
 have:=B1 0 b (by omega) hb
 simpa using this
theorem kc {V:View}{p:OA}{n c:Nat}{ds:List Nat}(h:RD V p n c ds)(hm:ds.length<=1099511627776) :
  Acts prog 186 #[.slice p n c] V fun r V'=>r=.tuple #[.int .u64 ((if val ds<18446744073709551616 then val ds else 0:Nat):Int),.bool (decide (val ds<18446744073709551616))]:=by
 refine CF p n c V _ fun y q=>(aM (h.le q) (by omega)).mono ?_
 rintro r V2 A ⟨n,rfl,e⟩
 rw [aJ h.eI] at e
 generalize val ds=x at *
 have B:=e.len
 have C:(af x).length<=2↔x<18446744073709551616:=az (k:=2)
 refine ⟨_,_,_,rfl,fun a D E=>?_,fun a=>?_⟩
 ·have a:¬x<18446744073709551616:=by simp at a;omega
  rw [if_neg a,decide_eq_false a];rfl
 ·have m:x<18446744073709551616:=by simp at a;omega
  rw [if_pos m,decide_eq_true m]
  have F:n<=2:=by omega
  refine ⟨fun z V'=>0<=z.2/\z.2<=n/\z.1=(val ((af x).take z.2.toNat):Int),fun z=>n-z.2.toNat,⟨(0,0),by (try dsimp only);and_intros<;>trivial,by (try dsimp only);omega,by (try dsimp only);omega,by simp⟩,?_⟩
  rintro ⟨u,i⟩ G s ⟨d,f,hu⟩
  dsimp only at d f hu ⊢
  subst hu
  obtain ⟨i,rfl⟩:=Int.eq_ofNat_of_zero_le d
  simp only [Int.toNat_natCast]
  refine ⟨by trivial,fun b=>?_,fun b H I=>?_⟩
  ·have b:i<n:=by simpa using b
   refine (e.le s).rd i rfl (by omega) ?_
   have o:=(ax x).get (i:=i) (by omega)
   simp (disch:=omega) only [i64w]
   refine ⟨by omega,(_,_),?_,by (try dsimp only);and_intros<;>trivial,?_⟩
   ·(try dsimp only);omega
   ·(try dsimp only)
    refine ⟨by omega,by omega,?_⟩
    have g:((i:Int)+1).toNat=i+1:=by omega
    rw [g,aq _ _ (by omega)]
    have t:i=0\/i=1:=by omega
    rcases t with rfl|rfl
    ·simp (disch:=omega) only [aH]
     have j:(min ((32:Int)*((0:Nat):Int)).toNat IntKind.u64.bits)=0:=by decide
     rw [j]
     simp (disch:=omega) only [aH,Int.pow_zero,Int.mul_one,List.take_zero,dG,Nat.pow_zero,Nat.one_mul,Nat.zero_add]
     exact PD _ o
    ·have j:(min ((32:Int)*((1:Nat):Int)).toNat IntKind.u64.bits)=32:=by decide
     have a:0<(af x).length:=by omega
     have l:=(ax x).get (i:=0) a
     have v:(af x).take 1=[(af x)[0]]:=by rw [List.take_succ_eq_append_getElem a];rfl
     have w:((2:Int)^32)=4294967296:=by decide
     rw [j,v,w]
     simp (disch:=omega) only [aH]
     simp only [aU,dG,Nat.mul_zero,Nat.add_zero]
     rw [Ii _ _ o l]
     omega
  ·have b:i=n:=by simp at b;omega
   subst b
   rw [ai (by omega),ab]
theorem hJ {V:View}{p:OA}{n c:Nat}{ds:List Nat}(h:RD V p n c ds)(hm:ds.length<=1099511627776) :
  Acts prog 181 #[.slice p n c] V fun r V'=>r=.int .i64 (br (val ds):Int):=by
 have k:=a_ h.eI
 refine CD p n c V _ fun t l=>(aM (h.le l) (by omega)).mono ?_
 rintro r V2 u ⟨n,rfl,g⟩
 rw [aJ h.eI] at g
 generalize val ds=x at *
 have m:=g.len
 refine ⟨_,_,_,rfl,fun f v w=>?_,fun f=>?_⟩
 ·have:af x=[]:=List.length_eq_zero_iff.1 (by simp at f;omega)
  have:=bf.1 this
  subst this;rfl
 ·have f:0<n:=by simp at f;omega
  simp (disch:=omega) only [i64w]
  refine g.rd (n-1) (by omega) (by omega) fun y z=>(fy _ ((ax x).get (by omega))).mono ?_
  rintro r A B rfl
  refine ⟨_,rfl,fun C D=>?_⟩
  have E:=(ax x).get (i:=n-1) (by omega)
  have a:(af x)[n-1]≠0:=by
   have:=(ir x).last (by omega)
   simpa [m] using this
  have F:br (af x)[n-1]<=32:=iI.2 (by omega)
  simp (disch:=omega) only [i64w]
  have key:br x=32*(n-1)+br (af x)[n-1]:=by
   have e:=fI (af x) (n-1) (by omega)
   rw [ab,List.drop_of_length_le (by omega)] at e
   simp only [dG,Nat.mul_zero,Nat.add_zero] at e
   have b:=fq ((ax x).take (n-1))
   rw [List.length_take,Nat.min_eq_left (by omega)] at b
   have j:(4294967296:Nat)^(n-1)=2^(32*(n-1)):=by rw [Nat.pow_mul]
   rw [j] at e b
   generalize (af x)[n-1]=d at *
   have o:=oB d
   have q:=oA a
   have s:0<br d:=by unfold br;rw [if_neg a];omega
   refine qH ?_ (.inr ?_)
   ·rw [Nat.pow_add]
    have:2^(32*(n-1))*(d+1)<=2^(32*(n-1))*2^br d:=Nat.mul_le_mul_left _ o
    rw [Nat.mul_add,Nat.mul_one] at this
    omega
   ·rw [show 32*(n-1)+br d-1=32*(n-1)+(br d-1) from by omega,Nat.pow_add]
    have:2^(32*(n-1))*2^(br d-1)<=2^(32*(n-1))*d:=Nat.mul_le_mul_left _ q
    omega
  rw [key]
  congr 1
  omega
theorem BT {E S c t x y e Y B D:Nat}(h:E+B*D*c=S+B*x*Y)(ht:t=c+x*y+e) :
  E+B*D*(t%4294967296)+B*D*4294967296*(t / 4294967296)=S+B*D*e+B*x*(Y+D*y):=by
 have a:B*D*(t%4294967296)+B*D*4294967296*(t / 4294967296)=B*D*t:=by
  rw [Nat.mul_assoc (B*D),←Nat.mul_add,Nat.mod_add_div]
 rw [Nat.add_assoc,a,ht]
 grind
theorem fC {V:View}{p q:OA}{n c m e:Nat}{xa xb:List Nat}(ha:RD V p n c xa)(hb:RD V q m e xb)(hm:xa.length+xb.length<=1099511627776) :
  Acts prog 206 #[.slice p n c,.slice q m e] V fun r V'=>∃p' n' c',r=.slice p' n' c'/\RN V' p' n' c' (val xa*val xb):=by
 have la:=a_ ha.eI
 have lb:=a_ hb.eI
 refine Ee p n c q m e V _ fun V1 M=>(aM (ha.le M) (by omega)).mono ?_
 rintro r V2 T ⟨n,rfl,o⟩
 rw [aJ ha.eI] at o
 refine ⟨_,_,_,rfl,fun V3 N=>(aM (hb.le (M.trans (T.trans N))) (by omega)).mono ?_⟩
 rintro r V4 U ⟨m,rfl,C⟩
 rw [aJ hb.eI] at C
 replace o:=o.le (N.trans U)
 have W:=o.len
 have Au:=C.len
 have O:val xa=val (af (val xa)):=(ab _).symm
 have P:val xb=val (af (val xb)):=(ab _).symm
 rw [O,P]
 clear O P
 generalize af (val xa)=xs at *
 generalize af (val xb)=ys at *
 refine ⟨_,_,_,rfl,?_⟩
 simp (disch:=omega) only [i64w,cq]
 have E:((n:Int)+m).toNat=n+m:=by omega
 rw [E]
 refine ⟨by omega,by omega,by omega,fun z V'=>0<=z.1/\z.1<=n/\∃es:List Nat,z.2=ay es/\es.length=n+m/\bI es /\
  val (es.take (z.1.toNat+m))=val (xs.take z.1.toNat)*val ys,fun z=>n-z.1.toNat,⟨(0,ay (List.replicate (n+m) 0)),by (try dsimp only);and_intros<;>trivial,by (try dsimp only);omega,by (try dsimp only);omega,_,rfl,by simp,bI.rep _,by simp [sS,List.take_replicate]⟩,?_⟩
 rintro ⟨i,X⟩ V5 Q ⟨u,F,es,rfl,G,g,v⟩
 dsimp only at u F v ⊢
 obtain ⟨i,rfl⟩:=Int.eq_ofNat_of_zero_le u
 simp only [Int.toNat_natCast] at v
 refine ⟨by trivial,fun s=>?_,fun s=>?_⟩
 ·have s:i<n:=by simpa using s
  refine (o.le Q).rd i rfl (by omega) ?_
  have xV:=o.eI.get (i:=i) (by omega)
  refine ⟨fun z V'=>0<=z.1/\z.1<=4294967295/\0<=z.2.1/\z.2.1<=m/\∃a:List Nat,z.2.2=ay a/\a.length=n+m/\bI a/\a.drop (i+z.2.1.toNat)=es.drop (i+z.2.1.toNat) /\
   val (a.take (i+z.2.1.toNat))+4294967296^(i+z.2.1.toNat)*z.1.toNat=val (es.take (i+z.2.1.toNat))+4294967296^i*xs[i]*val (ys.take z.2.1.toNat),fun z=>m-z.2.1.toNat,
   ⟨(0,0,ay es),by (try dsimp only);and_intros<;>trivial,by (try dsimp only);omega,by (try dsimp only);omega,by (try dsimp only);omega,by (try dsimp only);omega,es,rfl,G,g,rfl,by simp⟩,?_⟩
  rintro ⟨D,k,X⟩ Y R ⟨w,H,y,I,a,rfl,A,h,f,hw⟩
  dsimp only at w H y I f hw ⊢
  obtain ⟨k,rfl⟩:=Int.eq_ofNat_of_zero_le y
  obtain ⟨D,rfl⟩:=Int.eq_ofNat_of_zero_le w
  simp only [Int.toNat_natCast] at f hw
  refine ⟨by trivial,fun d=>?_,fun d=>?_⟩
  ·have d:k<m:=by simpa using d
   refine (C.le (Q.trans R)).rd k rfl (by omega) ?_
   have Z:=C.eI.get (i:=k) (by omega)
   have RX:=h.get (i:=i+k) (by omega)
   have J:a[i+k]'(by omega)=es[i+k]'(by omega):=by
    have S:a[i+k]?=es[i+k]?:=by
     have:=congrArg (fun l=>l[0]?) f
     simpa [List.getElem?_drop] using this
    rw [List.getElem?_eq_getElem (by omega),List.getElem?_eq_getElem (by omega)] at S
    exact Option.some.inj S
   simp (disch:=omega) only [i64w]
   have j:((i:Int)+k).toNat=i+k:=by omega
   rw [j]
   refine ⟨⟨by omega,by omega⟩,((a[i+k]'(by omega):Nat):Int),by rw [Nat.zero_add,Nat.mul_one];exact fm (by omega),⟨by omega,by omega⟩,by simp;omega,by omega,?_⟩
   have a0:xs[i]*ys[k]<=4294967295*4294967295:=Nat.mul_le_mul (by omega) (by omega)
   have Mx:(xs[i]:Int)*(ys[k]:Int)=((xs[i]*ys[k]:Nat):Int):=by simp
   obtain ⟨t,ht⟩:∃t:Nat,t=D+xs[i]*ys[k]+a[i+k]'(by omega):=⟨_,rfl⟩
   rw [Nat.pow_add] at hw
   have b:=BT hw ht
   have e1:u64.wrap ((D:Int)+u64.wrap (u64.wrap (u64.wrap (xs[i]:Int)*u64.wrap (ys[k]:Int))+u64.wrap ((a[i+k]'(by omega):Nat):Int)))=(t:Int):=by
    clear b
    generalize xs[i]*ys[k]=pq at *
    rw [aH (x:=(xs[i]:Int)) (by omega),aH (x:=(ys[k]:Int)) (by omega),Mx,aH (x:=((pq:Nat):Int)) (by omega)]
    simp (disch:=omega) only [aH]
    omega
   rw [e1,gI,kF]
   refine ⟨(_,_,_),?_,by (try dsimp only);and_intros<;>trivial,?_⟩
   ·(try dsimp only);omega
   ·(try dsimp only)
    have B:((k:Int)+1).toNat=k+1:=by omega
    refine ⟨by omega,by omega,by omega,by omega,a.set (i+k) (t%4294967296),?_,by simpa using A,h.set _ _ (by omega),?_,?_⟩
    ·rw [←aZ];simp
    ·rw [B,List.drop_set_of_lt (by omega)]
     have:=congrArg (List.drop 1) f
     simpa [List.drop_drop,Nat.add_comm,Nat.add_assoc,Nat.add_left_comm] using this
    ·rw [B,show i+(k+1)=i+k+1 from by omega,aE _ _ _ (by omega),aq es (i+k) (by omega),aq ys k (by omega),←J,Nat.pow_succ]
     have e2:((t:Int) / 4294967296).toNat=t / 4294967296:=by omega
     rw [e2,Nat.pow_add,b]
  ·have d:k=m:=by simp at d;omega
   subst d
   simp (disch:=omega) only [i64w]
   have j:((i:Int)+k).toNat=i+k:=by omega
   rw [j]
   refine ⟨⟨by omega,by omega⟩,by simp;omega,(_,_),?_,by (try dsimp only);and_intros<;>trivial,?_⟩
   ·(try dsimp only);omega
   ·(try dsimp only)
    have K:((i:Int)+1).toNat=i+1:=by omega
    refine ⟨by omega,by omega,a.set (i+k) D,?_,by simpa using A,h.set _ _ (by omega),?_⟩
    ·rw [←aZ,oY (by omega)];simp
    ·rw [K,show i+1+k=i+k+1 from by omega,aE _ _ _ (by omega),hw,v,aq xs i (by omega),ai (ds:=ys) (by omega)]
     grind
 ·have s:i=n:=by simp at s;omega
  subst s
  intro Y R bk L
  refine (aM (RD.aW L g (n:=i+m) (c:=i+m) (by omega) (Nat.le_refl _)) (by omega)).mono ?_
  rintro r V7 l7 ⟨k,rfl,d⟩
  refine ⟨_,_,_,rfl,fun _ V8 l8=>⟨_,_,_,rfl,?_⟩⟩
  rw [aJ g] at d
  rw [ai (by omega),ai (by omega)] at v
  rw [v] at d
  exact d.le l8
theorem uU {x A d q r rest B W:Nat}(hA:A=d*B+rest)(h:d*q+r=rest*W+x):x+W*A=d*(q+W*B)+r:=by
 subst hA;grind
theorem AW {V:View}{p:OA}{n c:Nat}{xs:List Nat}(hx:RD V p n c xs)(hm:xs.length<=1099511627776)(d:Nat)(hd0:d≠0)(hd:d<4294967296) :
  Acts prog 224 #[.slice p n c,.int .u32 (d:Int)] V fun r V'=>∃p' n' c',r=.tuple #[.slice p' n' c',.int .u32 ((val xs%d:Nat):Int)]/\RN V' p' n' c' (val xs / d):=by
 have w:=hx.len
 refine Ab p n c d V _ ⟨by omega,by omega,by omega,?_⟩
 simp (disch:=omega) only [i64w,aH,Int.toNat_natCast,cq]
 refine ⟨fun z V'=>0<=z.1/\z.1<d/\-1<=z.2.1/\z.2.1<n/\∃es:List Nat,z.2.2=ay es/\es.length=n/\bI es /\
   val (xs.drop (z.2.1+1).toNat)=d*val (es.drop (z.2.1+1).toNat)+z.1.toNat,fun z=>(z.2.1+1).toNat,
   ⟨(0,(n:Int)-1,ay (List.replicate n 0)),by (try dsimp only);and_intros<;>trivial,by (try dsimp only);omega,by (try dsimp only);omega,by (try dsimp only);omega,by (try dsimp only);omega,_,rfl,by simp,bI.rep _,?_⟩,?_⟩
 ·(try dsimp only)
  rw [List.drop_of_length_le (by omega),List.drop_of_length_le (by simp)];rfl
 rintro ⟨rest,i,G⟩ V2 x ⟨f,g,h,j,es,rfl,m,b,a⟩
 dsimp only at f g h j a ⊢
 obtain ⟨rest,rfl⟩:=Int.eq_ofNat_of_zero_le f
 refine ⟨by trivial,fun e=>?_,fun e=>?_⟩
 ·have e:0<=i:=by simpa using e
  obtain ⟨i,rfl⟩:=Int.eq_ofNat_of_zero_le e
  have o:((i:Int)+1).toNat=i+1:=by omega
  rw [o] at a
  simp only [Int.toNat_natCast] at a
  refine ⟨by omega,(hx.le x).rd i rfl (by omega) ?_⟩
  have y:=hx.eI.get (i:=i) (by omega)
  have s:aX .or .u64 (u64.wrap ((rest:Int)*2^32)) (u64.wrap ((xs[i]:Nat):Int))=((rest*4294967296+xs[i]:Nat):Int):=by
   have A:((2:Int)^32)=4294967296:=by decide
   rw [A,aH (by omega),aH (by omega),B1 _ _ (by omega) y];omega
  rw [s]
  have t:((rest*4294967296+xs[i]:Nat):Int).tdiv (d:Int)=(((rest*4294967296+xs[i]) / d:Nat):Int):=by
   rw [Int.tdiv_eq_ediv_of_nonneg (by omega)];omega
  have B:((rest*4294967296+xs[i]:Nat):Int).tmod (d:Int)=(((rest*4294967296+xs[i])%d:Nat):Int):=by
   rw [Int.tmod_eq_emod_of_nonneg (by omega)];omega
  rw [t,B]
  have H:(rest*4294967296+xs[i]) / d<4294967296:=by
   rw [Nat.div_lt_iff_lt_mul (by omega)]
   have:rest+1<=d:=by omega
   have:=Nat.mul_le_mul_right 4294967296 this
   rw [Nat.mul_comm 4294967296 d]
   omega
  have I:(rest*4294967296+xs[i])%d<d:=Nat.mod_lt _ (by omega)
  have C:=Nat.div_add_mod (rest*4294967296+xs[i]) d
  generalize (rest*4294967296+xs[i]) / d=q at *
  generalize (rest*4294967296+xs[i])%d=r at *
  simp (disch:=omega) only [aH,oY,i64w]
  refine ⟨by omega,⟨by omega,by omega⟩,by simp;omega,by omega,?_⟩
  refine ⟨((r:Int),(i:Int)-1,ay (es.set i q)),?_,?_,?_⟩
  ·(try dsimp only);omega
  ·(try dsimp only);and_intros<;>first|trivial|(rw [←aZ];simp)
  ·(try dsimp only)
   refine ⟨by omega,by omega,by omega,by omega,_,rfl,by simpa using m,b.set _ _ (by omega),?_⟩
   have u:((i:Int)-1+1).toNat=i:=by omega
   rw [u,List.drop_eq_getElem_cons (by omega),List.drop_eq_getElem_cons (l:=es.set i q) (by simp;omega),List.getElem_set_self,List.drop_set_of_lt (by omega)]
   have D:xs[i]+4294967296*val (List.drop (i+1) xs)=d*(q+4294967296*val (List.drop (i+1) es))+r:=uU a C
   rw [aU,aU,Int.toNat_natCast]
   exact D
 ·have e:i=-1:=by simp at e;omega
  subst e
  simp only [Int.toNat_natCast] at a
  have a:val xs=d*val es+rest:=by simpa using a
  intro J K L E
  refine (aM (RD.aW E b (n:=n) (c:=n) (by omega) (Nat.le_refl _)) (by omega)).mono ?_
  rintro r M N ⟨k,rfl,v⟩
  refine ⟨_,_,_,rfl,fun _ O F=>?_⟩
  have s:val xs / d=val es:=by rw [a,Nat.mul_add_div (by omega),Nat.div_eq_of_lt (by omega),Nat.add_zero]
  have t:val xs%d=rest:=by rw [a,Nat.mul_add_mod,Nat.mod_eq_of_lt (by omega)]
  rw [oY (by omega),s,t]
  rw [aJ b] at v
  exact ⟨_,_,_,rfl,v.le F⟩
theorem DP (a b:Nat)(ha:a<4294967296)(hb:b<4294967296):aX .or .u32 (a:Int) (b:Int)=((a ||| b:Nat):Int):=by
 rw [aX,gI]
 have c:(BitVec.ofInt IntKind.u32.bits ((a:Nat):Int) ||| BitVec.ofInt IntKind.u32.bits (b:Int)).toNat=a ||| b:=by
  show (BitVec.ofInt 32 ((a:Nat):Int) ||| BitVec.ofInt 32 (b:Int)).toNat=_
  rw [BitVec.ofInt_natCast,BitVec.ofInt_natCast,BitVec.toNat_or,BitVec.toNat_ofNat,BitVec.toNat_ofNat,Nat.mod_eq_of_lt (by omega),Nat.mod_eq_of_lt (by omega)]
 have d:a ||| b<2^32:=Nat.or_lt_two_pow (by omega) (by omega)
 rw [c]
 omega
theorem MV {c m r:Nat}(h:c<2^r):c ||| m*2^r=c+m*2^r:=by
 rw [Nat.or_comm,←Nat.shiftLeft_eq,←Nat.shiftLeft_add_eq_or_of_lt h,Nat.add_comm]
theorem Cl {d r c:Nat}(hd:d<4294967296)(hr:r<32)(hc:c<2^r) :
  c ||| (d*2^r%4294967296)=c+d*2^r%4294967296/\c+d*2^r%4294967296<4294967296/\d*2^r / 4294967296<2^r/\d*2^r<18446744073709551616:=by
 have e:4294967296=2^(32-r)*2^r:=by rw [←Nat.pow_add,Nat.sub_add_cancel (by omega)]
 have a:d*2^r%4294967296=(d%2^(32-r))*2^r:=by
  rw [e,Nat.mul_mod_mul_right]
 have f:d%2^(32-r)+1<=2^(32-r):=Nat.mod_lt _ (Nat.two_pow_pos _)
 have b:=Nat.mul_le_mul_right (2^r) f
 have h:2^r<=2^31:=Nat.pow_le_pow_right (by omega) (by omega)
 have g:d*2^r<4294967296*2^r:=Nat.mul_lt_mul_of_pos_right hd (Nat.two_pow_pos _)
 refine ⟨by rw [a,MV hc],?_,?_,by omega⟩
 ·rw [a]
  rw [Nat.add_mul,Nat.one_mul] at b
  rw [←e] at b
  omega
 ·rw [Nat.div_lt_iff_lt_mul (by omega),Nat.mul_comm (2^r)];exact g
theorem xH {V:View}{p:OA}{n c:Nat}{ds:List Nat}(h:RD V p n c ds)(hm:ds.length<=1099511627776)(k:Nat)(hk:k<=1048576) :
  Acts prog 239 #[.slice p n c,.int .u64 (k:Int)] V fun r V'=>∃p' n' c',r=.slice p' n' c'/\RN V' p' n' c' (val ds*2^k)/\(val ds=0\/c'=(af (val ds)).length+k / 32+1):=by
 have G:=a_ h.eI
 refine Ef p n c k V _ fun Y H=>(aM (h.le H) (by omega)).mono ?_
 rintro r V2 Z ⟨n,rfl,o⟩
 rw [aJ h.eI] at o
 generalize hxv:val ds=x at *
 have hl:=o.len
 refine ⟨_,_,_,rfl,fun m V3 l3=>?_,fun m=>?_⟩
 ·have:af x=[]:=List.length_eq_zero_iff.1 (by simp at m;omega)
  have:=bf.1 this
  subst this
  rw [Nat.zero_mul]
  exact ⟨_,_,_,rfl,RD.nil,.inl rfl⟩
 ·have m:0<n:=by simp at m;omega
  have C:bD (k:Int) 1048576=k:=by unfold bD;rw [if_neg (by omega)]
  have D:(k:Int).tdiv 32=((k / 32:Nat):Int):=by rw [Int.tdiv_eq_ediv_of_nonneg (by omega)];omega
  have E:(k:Int).tmod 32=((k%32:Nat):Int):=by rw [Int.tmod_eq_emod_of_nonneg (by omega)];omega
  rw [C,D,E]
  have q:x*2^k=4294967296^(k / 32)*x*2^(k%32):=by
   have:2^k=4294967296^(k / 32)*2^(k%32):=by
    rw [show (4294967296:Nat)=2^32 from rfl,←Nat.pow_mul,←Nat.pow_add,Nat.div_add_mod]
   rw [this];grind
  rw [q]
  generalize hw:k / 32=w at *
  have s:k%32<32:=Nat.mod_lt _ (by omega)
  have I:w<=32768:=by omega
  generalize k%32=r at *
  clear C D E
  simp (disch:=omega) only [i64w,aH,cq]
  have t:((n:Int)+w+1).toNat=n+w+1:=by omega
  rw [t]
  refine ⟨by omega,by omega,by omega,by omega,by omega,fun z V'=>0<=z.1/\z.1<=n/\∃es:List Nat,z.2=ay es/\es.length=n+w+1/\bI es/\(∀c,es[z.1.toNat+w]?=some c->c<2^r) /\
   val (es.take (z.1.toNat+w+1))=4294967296^w*val ((af x).take z.1.toNat)*2^r,fun z=>n-z.1.toNat,
   ⟨(0,ay (List.replicate (n+w+1) 0)),by (try dsimp only);and_intros<;>trivial,by (try dsimp only);omega,by (try dsimp only);omega,_,rfl,by simp,bI.rep _,?_,?_⟩,?_⟩
  ·intro c a
   rw [List.getElem?_replicate] at a
   split at a
   ·cases a;exact Nat.two_pow_pos r
   ·cases a
  ·simp [List.take_replicate,sS]
  rintro ⟨i,vs⟩ V4 J ⟨f,u,es,rfl,v,b,a,d⟩
  dsimp only at f u a d ⊢
  obtain ⟨i,rfl⟩:=Int.eq_ofNat_of_zero_le f
  simp only [Int.toNat_natCast] at a d
  refine ⟨by trivial,fun e=>?_,fun e=>?_⟩
  ·have e:i<n:=by simpa using e
   refine (o.le J).rd i rfl (by omega) ?_
   have K:=(ax x).get (i:=i) (by omega)
   have y:=a (es[i+w]'(by omega)) (List.getElem?_eq_getElem _)
   obtain ⟨L,g2,M,g4⟩:=Cl K s y
   have g:(min ((r:Nat):Int).toNat IntKind.u64.bits)=r:=by
    show min _ 64=r
    omega
   have N:((2:Int)^r)=((2^r:Nat):Int):=by simp
   rw [g,N]
   have hmul:(((af x)[i]:Nat):Int)*((2^r:Nat):Int)=(((af x)[i]*2^r:Nat):Int):=by simp
   simp (disch:=omega) only [i64w]
   rw [aH (x:=(((af x)[i]:Nat):Int)) (by omega),hmul,aH (by omega),gI,kF]
   have A:((i:Int)+w).toNat=i+w:=by omega
   have O:((i:Int)+w+1).toNat=i+w+1:=by omega
   rw [A,O]
   refine ⟨by omega,⟨by omega,by omega⟩,((es[i+w]'(by omega):Nat):Int),by rw [Nat.zero_add,Nat.mul_one];exact fm (by omega),⟨by omega,by omega⟩,by simp;omega,by omega,⟨by omega,by omega⟩,by simp;omega,?_⟩
   have P:(((af x)[i]*2^r:Nat):Int)%4294967296=(((af x)[i]*2^r%4294967296:Nat):Int):=by omega
   have Q:(((af x)[i]*2^r:Nat):Int) / 4294967296=(((af x)[i]*2^r / 4294967296:Nat):Int):=by omega
   rw [P,Q,DP _ _ (by omega) (by omega),L]
   have R:=Nat.mod_add_div ((af x)[i]*2^r) 4294967296
   have S:(af x)[i]*2^r / 4294967296<4294967296:=by omega
   have B:val (List.take (i+1) (af x))=val (List.take i (af x))+4294967296^i*(af x)[i]:=aq _ _ (by omega)
   have T:val (es.take (i+w+1))=val (es.take (i+w))+4294967296^(i+w)*es[i+w]'(by omega):=aq _ _ (by omega)
   generalize (af x)[i]*2^r%4294967296=lo at *
   generalize hhi:(af x)[i]*2^r / 4294967296=hi at *
   rw [oY (by omega)]
   refine ⟨((i:Int)+1,ay ((es.set (i+w) (es[i+w]'(by omega)+lo)).set (i+w+1) hi)),?_,?_,?_⟩
   ·(try dsimp only);omega
   ·(try dsimp only);and_intros<;>first|trivial|(rw [←aZ,←aZ];simp)
   ·(try dsimp only)
    have j:((i:Int)+1).toNat=i+1:=by omega
    refine ⟨by omega,by omega,_,rfl,by simpa using v,(b.set _ _ (by omega)).set _ _ (by omega),?_,?_⟩
    ·intro c l
     rw [j,show i+1+w=i+w+1 from by omega,List.getElem?_set_self (by simp;omega)] at l
     cases l;exact M
    ·rw [j,show i+1+w+1=i+w+1+1 from by omega,aE _ _ _ (by simp;omega),aE _ _ _ (by omega),B]
     rw [T] at d
     have U:4294967296^(i+w+1)*hi=4294967296^(i+w)*(4294967296*hi):=by rw [Nat.pow_succ];grind
     rw [U,Nat.mul_add,←Nat.add_assoc,d,Nat.add_assoc,←Nat.mul_add,R,Nat.pow_add]
     grind
  ·have e:i=n:=by simp at e;omega
   subst e
   intro V5 l5 bk W
   refine (aM (RD.aW W b (n:=i+w+1) (c:=i+w+1) (by omega) (Nat.le_refl _)) (by omega)).mono ?_
   rintro r' V6 l6 ⟨k',rfl,F⟩
   refine ⟨_,_,_,rfl,fun _ V7 X=>⟨_,_,_,rfl,?_,.inr (by omega)⟩⟩
   rw [ai (by omega),ai (by omega),ab] at d
   rw [aJ b,d] at F
   exact F.le X
end Go.Proofs.Tryz
