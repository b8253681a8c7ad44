import Derived.Test.YtdhlkpfmlimjfaaGreatDoorC6
import Derived.Test.YtdhlkpfmlimjfaaGreatDoorCards
import Derived.Test.YtdhlkpfmlimjfaaGreatDoorTie
import Derived.WalkKit
import Derived.ProofKit
import Derived.OpenShut
import Derived.Deep.DeepHandedRow
import Derived.LaidLaws
import Derived.Lay
import Derived.Carry
import Derived.IntWalk
import Derived.LaidEql
import Derived.Stop.Asserts
import Derived.RowKitTokens
import Derived.Test.YtdhlkpfmlimjfaaGreatDoorC7
set_option linter.unusedVariables false
open Go.IntKind (i64 u64 u32)
namespace Go.Proofs.YtdhlkpfmlimjfaaGreatDoor
open Go.ChangeShapes Go.WideShapes Go.ChangeAt Go.RowKit Go.Eng
theorem own:ownKnob Tryz.prog.godebug=none:=by kernel_rfl
theorem star : "*" ++ "errors.errorString" = "*errors.errorString" := by decide
theorem Uw (u : TypeId)(h : Tryz.prog.typeName? 3 u = some "*errors.errorString") : u = 335 :=
 typeName_ptr_named (nm := "errors.errorString") (by rw [star]; kernel_rfl) (by kernel_rfl) (by decide) u (by rw [star]; exact h)
theorem MV:Tryz.prog.cellsOf 360=1:=by kernel_rfl
theorem MW:Tryz.prog.cellsOf 9=1:=by kernel_rfl
theorem Uv (g:Nat):MemPlace.cell g 0∈MemPlace.row ⟨g,0,none⟩ 1:=by simp [MemPlace.row]
theorem LY {P:Program}{W:World}{name:String}{g:Nat}{v:Value}(hg:P.globalNamed name=some g)(h:W.var? P name=some #[v]):W.cell? ⟨g,0,none⟩=some v:=by simpa using World.var?_cell hg h 0
set_option maxRecDepth 100000 in
theorem pB {W:World}{l:List (String×DataW Unit)}{name:String}{text:List UInt8}{g:Nat}(hg:Tryz.prog.globalNamed name=some g)(hty:(Tryz.prog.globals[g]?).map (·.type)=some 29)
  (hm : (name, .iface "*errors.errorString" (.ptr (.agg [.lit (.string text)]))) ∈ l)(h : laidMet Tryz.prog l W) :
  ∃a,W.cell? ⟨g,0,none⟩=some (.iface 335 (.pointer (some a))):=by
 obtain ⟨k,hv,-,c⟩:=h
 induction l generalizing k with
 | nil=>cases hm
 | cons x r ih=>
  obtain ⟨n,d⟩:=x;obtain ⟨A,t,cs,fuel,p,q,i,m,f,o,w,rfl⟩:=hv;rcases List.mem_cons.1 hm with e|hm
  ·cases e;obtain rfl:=Option.some.inj (hg.symm.trans i);obtain rfl:=Option.some.inj (hty.symm.trans m);obtain ⟨y⟩:=cs
   have j:∀u v,y=[.iface u v]->Value.okWide Tryz.prog W .any 0 u v:=fun u v e=>by
    subst e;exact (c g 0 (List.mem_append_left _ (List.mem_append_left _ (Uv g)))).2 u v (LY hg f)
   obtain ⟨a,s,rfl,-⟩:=errorString_of_trod Tryz.underlying29 Uw Tryz.underlying335 Tryz.underlying360 rfl rfl Tryz.underlying9 MV MW o j;exact ⟨a,LY hg f⟩
  ·exact ih hm q w fun b off z=>c b off (List.mem_append_right _ z)
def View.all (W:World):View:=⟨W,fun _=>False,fun _=>False,fun _ h=>h.elim,fun _ h=>h⟩
theorem Ci {w w':World}(h:ew (fun _=>False) w w')(may:MemPlace->Prop):w.keptBut w' may:=by
 refine ⟨h.os,h.out,fun i a=>?_⟩;rw [h.bg i a (fun h=>h)]
 cases w.heap[i]? with
 | none=>rfl
 | some o=>cases o<;>simp
theorem wU {f:FuncId}{args:Array Value}{W:World}{R:Value->Prop}(h:Acts Tryz.prog f args (View.all W) fun r _=>R r):Calls Tryz.prog f args W fun e w'=>∃r,e=.returned r/\R r/\ew (fun _=>False) W w':=
 h.2.mono fun e w' ⟨r,he,a,b⟩=>⟨r,he,b,a⟩
theorem laidOut:laidOutB Tryz.prog=true:=by kernel_rfl
theorem zC {w w':World}(h:ew (fun _=>False) w w'):Below w.heap.size w w':=⟨h.os,h.tape,h.out,h.size,fun k a=>h.bg k a (fun h=>h)⟩
theorem Gg {P:Program}(hlo:laidOutB P=true){H:Type}{enc:TypeId×Value->H}{W W':World}(hb:Below W.heap.size W W')(ts:List TypeId):∀{vs:List Value} {ds:List (DataW H)} {ps:List MemPlace},
  (ts.all fun t=>P.readableRec t&&decide (t<P.types.size))=true->DataW.TrodAll enc P W 0 (fun _=>true) true ts vs ds ps->(∀x∈ps,x.block<W.heap.size) ->
   DataW.TrodAll enc P W' 0 (fun b=>decide (b<W.heap.size)) true ts vs ds ps:=by
 induction ts with
 | nil=>
  intro vs ds ps _ h _;obtain ⟨rfl,rfl,rfl⟩:=trodAll_nil h;exact trodAll_mk0
 | cons t ts ih=>
  intro vs ds ps c h a;obtain ⟨v,f,d,g,p,q,rfl,rfl,rfl,i,j⟩:=trodAll_cons h;simp only [List.all_cons,Bool.and_eq_true,decide_eq_true_eq] at c;exact trodAll_cons_mk (Below.trod hlo c.1.1 c.1.2 i hb fun x e=>a x (List.mem_append_left _ e)) (ih c.2 j fun x e=>a x (List.mem_append_right _ e))
set_option maxRecDepth 100000 in
theorem KZ {H:Type}{enc:TypeId×Value->H}{VN:FuncId}{f:Func}{s:ChangeSpec}{W:World}{args:Array Value}{ds gs:List (DataW H)}{before:List MemPlace}{fresh handsOn:Bool}
  (hW:DataW.Whole enc Tryz.prog f.params.toList s.vars false W args.toList ds gs before)(hvars:s.vars=[])(hts:(f.params.toList.all fun t=>Tryz.prog.readableRec t&&decide (t<Tryz.prog.types.size))=true)
  (hres:f.resultTypes=#[4])(hs:s.fn H (ds++gs)={ results:=[.lit (.bool true)],args:=ds })
  (h:Acts Tryz.prog VN args (View.all W) fun r _=>r=.bool true):Calls Tryz.prog VN args W fun e W'=>∃v,e=.returned v/\s.post enc Tryz.prog f false fresh handsOn false W args v W':=by
 refine (wU h).mono fun e W' ⟨r,he,g,a⟩=>?_;subst he g;have b:=hW;obtain ⟨p,q,i,d,rfl,-,-⟩:=hW;rw [hvars] at d;obtain ⟨rfl,rfl⟩:=trodVars_none d;have c:∀x∈p++[],x.block<W.heap.size:=fun x a=>b.lt x a;refine ⟨_,rfl,ds,_,p++[],[],p++[],[],b,?_,?_,?_,Ci a _,fun h=>nomatch h⟩
 ·rw [hs,hres];exact trodAll_cons_mk (shut_bool Tryz.underlying4 _) trodAll_mk0
 ·rw [hs,List.append_nil];exact Gg laidOut (zC a) _ hts i fun x a=>c x (by rw [List.append_nil];exact a)
 ·rw [hs,hvars];rfl
set_option maxRecDepth 100000 in
theorem CL {H:Type}{enc:TypeId×Value->H}{W:World}{p:OA}{n c:Nat}{d:DataW H}{ps:List MemPlace}
  (h:DataW.Trod enc Tryz.prog W 0 (fun _=>true) true 22 (.slice p n c) d ps):n<=c/\∀i,i<n->∃(a:Addr)(x:Int),addrAdd p (i*1)=some a/\(View.all W).at a (.int .i64 x):=by
 obtain ⟨fuel,k⟩:=h;rcases open_ints Tryz.underlying22 Tryz.underlying3 (show Tryz.prog.cellsOf 3=1 by kernel_rfl) k with ⟨b,-⟩|⟨a,f,g,o,b,_,l,-,m,-,e,-⟩
 ·simp [Value.cells] at b;obtain ⟨rfl,rfl,rfl⟩:=b;exact ⟨Nat.le_refl _,fun i j=>absurd j (by omega)⟩
 ·simp [Value.cells] at b;obtain ⟨rfl,rfl,rfl⟩:=b;simp only [if_true] at m;exact ⟨l,fun i j=>⟨a.add i,_,by rw [Nat.mul_one];rfl,fun h=>h,e i (by omega)⟩⟩
end Go.Proofs.YtdhlkpfmlimjfaaGreatDoor
namespace Go.Big
def val:List Nat->Nat
 | []=>0
 | d::r=>d+4294967296*val r
def bM (ds:List Nat):Prop:=∀d∈ds,d<4294967296
def bT:List Nat->List Nat
 | []=>[]
 | d::r=>if bT r=[]/\d=0 then [] else d::bT r
def rZ (ds:List Nat):Prop:=bT ds=ds
def uh:Nat->Nat->List Nat
 | 0,_=>[]
 | f+1,n=>if n=0 then [] else n%4294967296::uh f (n / 4294967296)
def af (n:Nat):List Nat:=uh n n
@[simp] theorem dR:val []=0:=rfl
@[simp] theorem aZ (d:Nat)(r:List Nat):val (d::r)=d+4294967296*val r:=rfl
theorem bM.nil:bM []:=fun _ h=>nomatch h
theorem bM.cons {d:Nat}{r:List Nat}:bM (d::r)↔d<4294967296/\bM r:=by simp [bM]
theorem bM.append {a b:List Nat}:bM (a++b)↔bM a/\bM b:=by simp [bM,or_imp,forall_and]
theorem bM.take {a:List Nat}(h:bM a)(k:Nat):bM (a.take k):=fun d b=>h d (List.mem_of_mem_take b)
theorem bM.drop {a:List Nat}(h:bM a)(k:Nat):bM (a.drop k):=fun d b=>h d (List.mem_of_mem_drop b)
theorem bM.set {a:List Nat}(h:bM a)(k x:Nat)(hx:x<4294967296):bM (a.set k x):=fun d c=>by
 rcases List.mem_or_eq_of_mem_set c with b|b
 ·exact h d b
 ·exact b▸hx
theorem bM.get {a:List Nat}(h:bM a){i:Nat}(hi:i<a.length):a[i]<4294967296:=h _ (List.getElem_mem hi)
theorem bM.rep (n:Nat):bM (List.replicate n 0):=fun d a=>by rw [List.eq_of_mem_replicate a];omega
theorem cW (a b:List Nat):val (a++b)=val a+4294967296^a.length*val b:=by
 induction a with
 | nil=>simp
 | cons d r ih=>simp only [List.cons_append,aZ,ih,List.length_cons,Nat.pow_succ];grind
theorem fM {ds:List Nat}(h:bM ds):val ds<4294967296^ds.length:=by
 induction ds with
 | nil=>simp
 | cons d r ih=>
  have a:=bM.cons.1 h;have:=ih a.2;have c:=a.1;simp only [aZ,List.length_cons,Nat.pow_succ];have b:val r+1<=4294967296^r.length:=this;have e:=Nat.mul_le_mul_left 4294967296 b;omega
theorem tB (n:Nat):val (List.replicate n 0)=0:=by
 induction n with
 | zero=>rfl
 | succ n ih=>simp [List.replicate_succ,ih]
theorem aq (ds:List Nat)(i:Nat)(h:i<ds.length):val (ds.take (i+1))=val (ds.take i)+4294967296^i*ds[i]:=by
 rw [List.take_succ_eq_append_getElem h,cW];simp [List.length_take,Nat.min_eq_left (Nat.le_of_lt h)]
theorem aj {ds:List Nat}{i:Nat}(h:ds.length<=i):val (ds.take i)=val ds:=by rw [List.take_of_length_le h]
theorem xg (ds:List Nat)(i x:Nat)(h:i<ds.length):(ds.set i x).take (i+1)=ds.take i++[x]:=by
 rw [List.take_succ_eq_append_getElem (by simpa using h),List.take_set,List.set_eq_of_length_le (by simp;omega)];simp
theorem aE (ds:List Nat)(i x:Nat)(h:i<ds.length):val ((ds.set i x).take (i+1))=val (ds.take i)+4294967296^i*x:=by
 rw [xg ds i x h,cW];simp [List.length_take,Nat.min_eq_left (Nat.le_of_lt h)]
theorem gQ (r:List Nat):bT (r++[0])=bT r:=by
 induction r with
 | nil=>simp [bT]
 | cons d r ih=>simp only [List.cons_append,bT,ih]
theorem nS (r:List Nat)(d:Nat)(h:d≠0):bT (r++[d])=r++[d]:=by
 induction r with
 | nil=>simp [bT,h]
 | cons x r ih=>simp [List.cons_append,bT,ih]
theorem Hl (ds:List Nat):val (bT ds)=val ds:=by
 induction ds with
 | nil=>rfl
 | cons d r ih=>
  simp only [bT];split
  ·rename_i h;rw [aZ,←ih,h.1,h.2];rfl
  ·simp [ih]
theorem jX (ds:List Nat):(bT ds).length<=ds.length:=by
 induction ds with
 | nil=>simp [bT]
 | cons d r ih=>simp only [bT];split<;>simp<;>omega
theorem Hj (ds:List Nat):bT ds=ds.take (bT ds).length:=by
 induction ds with
 | nil=>rfl
 | cons d r ih=>
  simp only [bT];split
  ·rfl
  ·simp only [List.length_cons,List.take_succ_cons];rw [←ih]
theorem bM.trim {ds:List Nat}(h:bM ds):bM (bT ds):=by rw [Hj];exact h.take _
theorem C0 (ds:List Nat):rZ (bT ds):=by
 unfold rZ
 induction ds with
 | nil=>rfl
 | cons d r ih=>
  rw [bT];split
  ·rfl
  ·rename_i h;rw [bT,ih,if_neg h]
theorem rZ.tail {d:Nat}{r:List Nat}(h:rZ (d::r)):rZ r:=by
 unfold rZ at h ⊢;simp only [bT] at h;split at h
 ·cases h
 ·injection h
theorem rZ.zero {ds:List Nat}(h:rZ ds)(hv:val ds=0):ds=[]:=by
 induction ds with
 | nil=>rfl
 | cons d r ih=>
  have a:=ih h.tail (by simp at hv;omega);subst a;simp at hv;subst hv;simp [rZ,bT] at h
theorem oH:∀(f n:Nat),n<=f->val (uh f n)=n/\bM (uh f n)/\rZ (uh f n)
 | 0,n,h=>⟨by simp [uh];omega,bM.nil,rfl⟩
 | f+1,n,h=>by
  simp only [uh];split
  ·subst_vars;exact ⟨rfl,bM.nil,rfl⟩
  ·obtain ⟨h1,h2,h3⟩:=oH f (n / 4294967296) (by omega);refine ⟨by rw [aZ,h1];omega,bM.cons.2 ⟨by omega,h2⟩,?_⟩;unfold rZ at h3 ⊢;rw [bT,h3,if_neg];rintro ⟨a,b⟩;rw [a] at h1;simp at h1;omega
theorem ab (n:Nat):val (af n)=n:=(oH n n (Nat.le_refl _)).1
theorem ax (n:Nat):bM (af n):=(oH n n (Nat.le_refl _)).2.1
theorem iC (n:Nat):rZ (af n):=(oH n n (Nat.le_refl _)).2.2
theorem rZ.ext:∀{a b:List Nat},bM a->bM b->rZ a->rZ b->val a=val b->a=b
 | [],b,_,_,_,hb,h=>(hb.zero (by rw [←h];rfl)).symm
 | d::r,[],_,_,ha,_,h=>by have:=ha.zero h;cases this
 | d::r,e::s,ha,hb,na,nb,h=>by
  have f:=(bM.cons.1 ha).1;have g:=(bM.cons.1 hb).1;simp only [aZ] at h;have:val r=val s:=by omega
  have c:=rZ.ext (bM.cons.1 ha).2 (bM.cons.1 hb).2 na.tail nb.tail this;have:d=e:=by omega
  subst this;rw [c]
theorem uj {ds:List Nat}(h:bM ds)(hn:rZ ds):af (val ds)=ds:=rZ.ext (ax _) h (iC _) hn (ab _)
theorem aK {ds:List Nat}(h:bM ds):bT ds=af (val ds):=by
 rw [←Hl,uj h.trim (C0 _)]
theorem ui {a b:Nat}(h:af a=af b):a=b:=by rw [←ab a,h,ab]
@[simp] theorem yy:af 0=[]:=rfl
theorem bw {n:Nat}:af n=[]↔n=0:=⟨fun h=>ui (by rw [h];rfl),fun h=>h▸rfl⟩
theorem rZ.last {ds:List Nat}(h:rZ ds)(hl:0<ds.length):ds[ds.length-1]≠0:=by
 intro e
 have a:ds=ds.take (ds.length-1)++[ds[ds.length-1]]:=by
  rw [←List.take_succ_eq_append_getElem (by omega),Nat.sub_add_cancel hl,List.take_length]
 rw [e] at a;have b:bT ds=ds:=h;rw [a,gQ] at b;have:=jX (ds.take (ds.length-1));rw [b] at this;simp at this;omega
theorem Cv {ds:List Nat}(h:∀hl:0<ds.length,ds[ds.length-1]≠0):rZ ds:=by
 rcases Nat.eq_zero_or_pos ds.length with e|e
 ·rw [List.length_eq_zero_iff.1 e];rfl
 ·have a:ds=ds.take (ds.length-1)++[ds[ds.length-1]]:=by
   rw [←List.take_succ_eq_append_getElem (by omega),Nat.sub_add_cancel e,List.take_length]
  have:=nS (ds.take (ds.length-1)) _ (h e);rw [←a] at this;exact this
theorem JN {ds:List Nat}(h:rZ ds)(hl:0<ds.length):4294967296^(ds.length-1)<=val ds:=by
 have a:ds=ds.take (ds.length-1)++[ds[ds.length-1]]:=by
  rw [←List.take_succ_eq_append_getElem (by omega),Nat.sub_add_cancel hl,List.take_length]
 have b:=h.last hl;rw [a,cW];simp only [aZ,dR,List.length_take];rw [Nat.min_eq_left (by omega)];simp only [List.length_append,List.length_take,List.length_singleton];rw [Nat.min_eq_left (by omega),Nat.sub_add_cancel hl];have:4294967296^(ds.length-1)*1<=4294967296^(ds.length-1)*(ds[ds.length-1]+4294967296*0):=Nat.mul_le_mul_left _ (by omega);omega
theorem az {n k:Nat}:(af n).length<=k↔n<4294967296^k:=by
 constructor
 ·intro h;have:=fM (ax n);rw [ab] at this;exact Nat.lt_of_lt_of_le this (Nat.pow_le_pow_right (by omega) h)
 ·intro h;rcases Nat.lt_or_ge k (af n).length with a|a
  ·have:=JN (iC n) (by omega);rw [ab] at this;have b:4294967296^k<=4294967296^((af n).length-1):=Nat.pow_le_pow_right (by omega) (by omega);omega
  ·exact a
theorem rE {n k:Nat}:k<(af n).length↔4294967296^k<=n:=by
 have:=@az n k;omega
theorem fZ (ds:List Nat)(i:Nat)(h:i<ds.length):val ds=val (ds.take i)+4294967296^i*(ds[i]+4294967296*val (ds.drop (i+1))):=by
 have a:val ds=val (ds.take i++ds.drop i):=by rw [List.take_append_drop]
 rw [a,cW,List.drop_eq_getElem_cons h];simp only [List.length_take,Nat.min_eq_left (Nat.le_of_lt h),aZ]
theorem i_ {a b:List Nat}{i:Nat}(ha:bM a)(hi:i<a.length)(hj:i<b.length)(hd:a.drop (i+1)=b.drop (i+1))(hl:a[i]<b[i]):val a<val b:=by
 rw [fZ a i hi,fZ b i hj,hd];have c:=fM (ha.take i);simp only [List.length_take,Nat.min_eq_left (Nat.le_of_lt hi)] at c;have d:4294967296^i*(a[i]+4294967296*val (b.drop (i+1))+1)<=4294967296^i*(b[i]+4294967296*val (b.drop (i+1))):=Nat.mul_le_mul_left _ (by omega);rw [Nat.mul_add,Nat.mul_one] at d;omega
theorem jP {a b:Nat}(h:(af a).length<(af b).length):a<b:=by
 have c:=fM (ax a);have d:=JN (iC b) (by omega);rw [ab] at c d;have e:4294967296^(af a).length<=4294967296^((af b).length-1):=Nat.pow_le_pow_right (by omega) (by omega);omega
def jI (a b:Nat):Int:=if a<b then -1 else if b<a then 1 else 0
theorem aB {a b:Nat}(h:a<=b):(af a).length<=(af b).length:=by
 rcases Nat.lt_or_ge (af b).length (af a).length with c|c
 ·have:=jP c;omega
 ·exact c
theorem bq {ds:List Nat}(h:bM ds):(af (val ds)).length<=ds.length:=by rw [←aK h];exact jX ds
theorem Kz {n:Nat}(h:n<4294967296)(h0:n≠0):af n=[n]:=by
 have:rZ [n]:=by simp [rZ,bT,h0]
 have:=uj (by simp [bM];exact h) this;simpa using this
end Go.Big
namespace Go.Eng
open Go.Big
theorem i64w {x:Int}(h:-9223372036854775808<=x/\x<=9223372036854775807):i64.wrap x=x:=IntWalk.i64_in x h
theorem aG {x:Int}(h:0<=x/\x<=18446744073709551615):u64.wrap x=x:=IntWalk.u64_in x h
theorem pM {x:Int}(h:0<=x/\x<=4294967295):u32.wrap x=x:=IntWalk.u32_in x h
theorem gZ (x:Int):u32.wrap x=x%4294967296:=by rw [IntKind.wrap_u32]
theorem qS (x:Int):u64.wrap x=x%18446744073709551616:=by rw [IntKind.wrap_u64]
theorem kU {x:Int}:x.fdiv (2^32)=x / 4294967296:=by rw [Int.fdiv_eq_ediv_of_nonneg _ (by decide)];rfl
theorem JE {x:Int}:x.fdiv (2^63)=x / 9223372036854775808:=by rw [Int.fdiv_eq_ediv_of_nonneg _ (by decide)];rfl
theorem CA (a b:Nat)(ha:a<4294967296)(hb:b<4294967296):bh .or .u64 ((a:Int)*4294967296) (b:Int)=(a:Int)*4294967296+b:=by
 have c:((a:Int)*4294967296)=((a*2^32:Nat):Int):=by simp
 rw [bh,c,qS]
 have d:(BitVec.ofInt IntKind.u64.bits ((a*2^32:Nat):Int) ||| BitVec.ofInt IntKind.u64.bits (b:Int)).toNat=a*2^32+b:=by
  show (BitVec.ofInt 64 ((a*2^32:Nat):Int) ||| BitVec.ofInt 64 (b:Int)).toNat=_;rw [BitVec.ofInt_natCast,BitVec.ofInt_natCast,BitVec.toNat_or,BitVec.toNat_ofNat,BitVec.toNat_ofNat,Nat.mod_eq_of_lt (by omega),Nat.mod_eq_of_lt (by omega)];have:=Nat.shiftLeft_add_eq_or_of_lt (b:=b) (i:=32) (by omega) a;rw [Nat.shiftLeft_eq] at this;exact this.symm
 rw [d];omega
def ay (ds:List Nat):List Value:=ds.map fun (d:Nat)=>Value.int .u32 (d:Int)
@[simp] theorem QZ (ds:List Nat):(ay ds).length=ds.length:=by simp [ay]
theorem bo (ds:List Nat)(i x:Nat):(ay ds).set i (.int .u32 (x:Int))=ay (ds.set i x):=by simp [ay,List.map_set]
theorem cw (n:Nat):List.replicate n (Value.int .u32 0)=ay (List.replicate n 0):=by simp [ay]
theorem fK {ds:List Nat}{i:Nat}(h:i<ds.length):(ay ds)[i]?=some (.int .u32 (ds[i]:Int)):=by simp [ay,h]
theorem zk (ds:List Nat)(k:Nat):ay (ds.take k)=(ay ds).take k:=by simp [ay,List.map_take]
theorem Hk (ds:List Nat)(k:Nat):ay (ds.drop k)=(ay ds).drop k:=by simp [ay,List.map_drop]
theorem rT (a b:List Nat):ay (a++b)=ay a++ay b:=by simp [ay]
theorem View.Le.sl {V V':View}(h:V.Le V'){a:OA}{xs:List Value}(hs:V.sl a xs):V'.sl a xs:=
 fun i v hv=>let ⟨ad,e,ha⟩:=hs i v hv;⟨ad,e,h.at ha⟩
structure RD (V:View) (p:OA) (n c:Nat) (ds:List Nat):Prop where
 len:n=ds.length
 cap:n<=c
 sl:V.sl p (ay ds)
 fh:bM ds
 G3:p.isNone=true->c=0
theorem RD.le {V V':View}{p:OA}{n c:Nat}{ds:List Nat}(h:RD V p n c ds)(l:V.Le V'):RD V' p n c ds:=⟨h.len,h.cap,l.sl h.sl,h.fh,h.G3⟩
theorem RD.nil {V:View}:RD V none 0 0 []:=⟨rfl,Nat.le_refl _,fun i v h=>by simp [ay] at h,bM.nil,fun _=>rfl⟩
theorem RD.take {V:View}{p:OA}{n c:Nat}{ds:List Nat}(h:RD V p n c ds){k:Nat}(hk:k<=n):RD V p k c (ds.take k):=by
 have:=h.len;refine ⟨by simp;omega,by have:=h.cap;omega,fun i v hv=>h.sl i v ?_,h.fh.take k,h.G3⟩;rw [zk] at hv;rw [List.getElem?_take] at hv;split at hv
 ·exact hv
 ·cases hv
theorem RD.rd {V:View}{p:OA}{n c:Nat}{ds:List Nat}(h:RD V p n c ds){i:Int}{K:Int->Prop}(j:Nat)(hj:i=j)(hn:j<ds.length)
  (hK:K ((ds[j]:Nat):Int)):(p.isSome=true)/\(0<=i/\i<(n:Int))/\∃x:Int,(∃a,addrAdd p (i.toNat*1)=some a/\V.at a (.int .u32 x))/\K x:=by
 obtain ⟨b,e,d⟩:=h.sl j _ (fK hn);have:=h.len;subst hj;refine ⟨by rw [e];rfl,⟨by omega,by omega⟩,_,⟨b.add j,?_,d⟩,hK⟩;rw [e];simp [addrAdd]
theorem blk_at {V:View}{b:Nat}{xs:List Value}{ty:TypeId}{m:Nat×Nat}(h:V.bg b (.cells xs.toArray ty m)){i:Nat}{v:Value}(hv:xs[i]?=some v):V.at ⟨b,i,none⟩ v:=by
 refine ⟨h.1,?_⟩;unfold World.cell?;rw [h.2];simpa using hv
theorem add_zero' (b i:Nat):(⟨b,0,none⟩:Addr).add i=⟨b,i,none⟩:=by
 unfold Addr.add;split
 ·rename_i h;simp_all
 ·simp
theorem RD.bg {V:View}{b:Nat}{ds:List Nat}{ty:TypeId}{m:Nat×Nat}(h:V.bg b (.cells (ay ds).toArray ty m))(hd:bM ds){n c:Nat}(hn:n=ds.length)(hc:n<=c):RD V (some ⟨b,0,none⟩) n c ds:=
 ⟨hn,hc,fun i v hv=>⟨_,rfl,by rw [add_zero'];exact blk_at h hv⟩,hd,fun e=>nomatch e⟩
end Go.Eng
namespace Go.Eng
theorem tH (a:Addr)(m n:Nat):(a.add m).add n=a.add (m+n):=by
 unfold Addr.add;by_cases b:m=0
 ·subst b;simp
 ·by_cases c:n=0
  ·subst c;simp [b]
  ·rw [if_neg b,if_neg c,if_neg (by omega)];simp only [Nat.add_assoc]
variable {α:Type} {sz:Nat} {R:View->Value->α->Prop} {V V':View}
structure Row (sz:Nat) (R:View->Value->α->Prop) (V:View) (vs:List Value) (al:List α):Prop where
 at_:∀(i:Nat)(h:i<al.length),∃xs:List Value,xs.length=sz/\R V (.agg xs.toArray) al[i]/\∀j x,xs[j]?=some x->vs[i*sz+j]?=some x
structure Lst (sz:Nat) (R:View->Value->α->Prop) (V:View) (p:OA) (n:Nat) (al:List α):Prop where
 len:n=al.length
 at_:∀(i:Nat)(h:i<al.length),∃ad,addrAdd p (i*sz)=some ad/\∃xs:List Value,xs.length=sz/\R V (.agg xs.toArray) al[i]/\∀j x,xs[j]?=some x->V.at (ad.add j) x
theorem Row.nil {vs:List Value}:Row sz R V vs []:=⟨fun i h=>absurd h (Nat.not_lt_zero i)⟩
theorem Lst.nil {p:OA}:Lst sz R V p 0 []:=⟨rfl,fun i h=>absurd h (Nat.not_lt_zero i)⟩
theorem Row.le {vs:List Value}{al:List α}(h:Row sz R V vs al)(m:∀v a,R V v a->R V' v a):Row sz R V' vs al:=
 ⟨fun i b=>by obtain ⟨xs,c,d,e⟩:=h.at_ i b;exact ⟨xs,c,m _ _ d,e⟩⟩
theorem Lst.le {p:OA}{n:Nat}{al:List α}(h:Lst sz R V p n al)(l:V.Le V')(m:∀v a,R V v a->R V' v a):Lst sz R V' p n al:=
 ⟨h.len,fun i b=>by obtain ⟨c,d,xs,e,f,g⟩:=h.at_ i b;exact ⟨c,d,xs,e,m _ _ f,fun j x k=>l.at (g j x k)⟩⟩
theorem Row.jn {vs:List Value}{al:List α}(h:Row sz R V vs al)(hs:0<sz):al.length*sz<=vs.length:=by
 by_cases a:al.length=0
 ·rw [a];omega
 ·obtain ⟨xs,d,-,b⟩:=h.at_ (al.length-1) (by omega);have c:sz-1<xs.length:=by omega
  have:=(List.getElem?_eq_some_iff.1 (b (sz-1) _ (List.getElem?_eq_getElem c))).1
  have e:al.length*sz=(al.length-1)*sz+sz:=by
   obtain ⟨m,hm⟩:∃m,al.length=m+1:=⟨al.length-1,by omega⟩;rw [hm,Nat.add_sub_cancel,Nat.succ_mul]
  omega
theorem Row.snoc {vs:List Value}{al:List α}(h:Row sz R V vs al){xs sp:List Value}{a:α}(hx:xs.length=sz)(ha:R V (.agg xs.toArray) a)(hs:0<sz) :
  Row sz R V (vs.take (al.length*sz)++xs++sp) (al++[a]):=by
 have p:=h.jn hs;have g:(vs.take (al.length*sz)).length=al.length*sz:=by rw [List.length_take];omega
 refine ⟨fun i k=>?_⟩;rw [List.length_append,List.length_singleton] at k;by_cases e:i=al.length
 ·subst e;refine ⟨xs,hx,by rw [List.getElem_append_right (Nat.le_refl _)];simpa using ha,fun j x c=>?_⟩;have d:=(List.getElem?_eq_some_iff.1 c).1;rw [List.append_assoc,List.getElem?_append_right (by rw [g];omega),g,Nat.add_sub_cancel_left,List.getElem?_append_left d];exact c
 ·have b:i<al.length:=by omega
  obtain ⟨l,m,n,o⟩:=h.at_ i b;refine ⟨l,m,by rw [List.getElem_append_left b];exact n,fun j x c=>?_⟩;have d:=(List.getElem?_eq_some_iff.1 c).1
  have f:i*sz+j<al.length*sz:=by
   have:(i+1)*sz<=al.length*sz:=Nat.mul_le_mul_right _ b;rw [Nat.succ_mul] at this;omega
  rw [List.append_assoc,List.getElem?_append_left (by rw [g];exact f),List.getElem?_take,if_pos f];exact o j x c
theorem Lst.I8 {bk:Nat}{ty:TypeId}{m:Nat×Nat}{vs:List Value}{al:List α}(hb:V.bg bk (.cells vs.toArray ty m))(h:Row sz R V vs al):Lst sz R V (some ⟨bk,0,none⟩) al.length al:=by
 refine ⟨rfl,fun i a=>?_⟩;obtain ⟨xs,b,c,d⟩:=h.at_ i a;refine ⟨⟨bk,i*sz,none⟩,by simp [addrAdd,add_zero'],xs,b,c,fun j x f=>?_⟩;have e:(⟨bk,i*sz,none⟩:Addr).add j=⟨bk,i*sz+j,none⟩:=by rw [←add_zero',tH,add_zero']
 rw [e];exact blk_at hb (d j x f)
theorem Lst.of_mrow {bk c:Nat}{ty:TypeId}{m:Nat×Nat}{vs:List Value}{al:List α}(hb:vs≠[]->V.bg bk (.cells vs.toArray ty m))(h:Row sz R V vs al)(hs:0<sz)(hc:al.length<=c):Lst sz R V (mA bk c) al.length al:=by
 cases al with
 | nil=>exact Lst.nil
 | cons a r=>
  have b:vs≠[]:=fun e=>by
   have:=h.jn hs;rw [e,List.length_cons,Nat.succ_mul] at this;simp at this;omega
  have:mA bk c=some ⟨bk,0,none⟩:=by unfold mA;rw [if_neg];rw [List.length_cons] at hc;omega
  rw [this];exact Lst.I8 (hb b) h
end Go.Eng
namespace Go.Proofs.Tryz
open Go.Eng Go.Big
structure GR {α:Type} (sz:Nat) (R:View->Value->α->Prop) (V:View) (n c:Nat) (vs:List Value) (l:List α):Prop where
 len:n=l.length
 le:n<=c
 cap:c*sz<=vs.length
 row:Row sz R V vs l
theorem GR.nil {α:Type}{sz:Nat}{R:View->Value->α->Prop}{V:View}:GR sz R V 0 0 [] []:=⟨rfl,Nat.le_refl _,by simp,Row.nil⟩
theorem GR.mono {α:Type}{sz:Nat}{R:View->Value->α->Prop}{V V':View}{n c:Nat}{vs:List Value}{l:List α}(h:GR sz R V n c vs l)(m:∀v a,R V v a->R V' v a):GR sz R V' n c vs l:=⟨h.len,h.le,h.cap,h.row.le m⟩
theorem GR.snoc {α:Type}{sz:Nat}{R:View->Value->α->Prop}{V:View}{n c:Nat}{vs:List Value}{l:List α}(h:GR sz R V n c vs l){xs:List Value}{a:α}(hx:xs.length=sz)(ha:R V (.agg xs.toArray) a)(h0:0<sz){sp:List Value}{c':Nat}(h1:n+1<=c')(h2:c'*sz<=(n+1)*sz+sp.length) :
  GR sz R V (n+1) c' (vs.take (n*sz)++xs++sp) (l++[a]):=by
 have b:=h.len;have e:=h.cap;have f:n*sz<=c*sz:=Nat.mul_le_mul_right _ h.le;refine ⟨by rw [List.length_append,b];rfl,h1,?_,?_⟩
 ·have d:(vs.take (n*sz)).length=n*sz:=by rw [List.length_take];omega
  rw [List.length_append,List.length_append,d,hx];rw [Nat.succ_mul] at h2;exact h2
 ·have:=h.row.snoc (sp:=sp) hx ha h0;rw [←b] at this;exact this
theorem row_one {α:Type}{sz:Nat}{R:View->Value->α->Prop}{V:View}{xs:List Value}{a:α}(hx:xs.length=sz)(ha:R V (.agg xs.toArray) a):Row sz R V xs [a]:=by
 refine ⟨fun i b=>?_⟩;obtain rfl:i=0:=by simpa using b
 exact ⟨xs,hx,ha,fun j x c=>by rw [Nat.zero_mul,Nat.zero_add];exact c⟩
theorem vj {α:Type}{sz:Nat}{R:View->Value->α->Prop}{V:View}{vs:List Value}{ls:List α}(h:Row sz R V vs ls){k:Nat}(hk:k<=ls.length){xs sp:List Value}{a:α}(hx:xs.length=sz)(ha:R V (.agg xs.toArray) a)(hs:0<sz) :
  Row sz R V (vs.take (k*sz)++(xs++(vs.take (ls.length*sz)).drop (k*sz))++sp) (ls.take k++a::ls.drop k):=by
 have v:=h.jn hs;have q:k*sz<=ls.length*sz:=Nat.mul_le_mul_right _ hk;have t1:(vs.take (k*sz)).length=k*sz:=by rw [List.length_take];omega
 have t2:((vs.take (ls.length*sz)).drop (k*sz)).length=ls.length*sz-k*sz:=by rw [List.length_drop,List.length_take];omega
 have g:(ls.take k).length=k:=by rw [List.length_take];omega
 refine ⟨fun i r=>?_⟩;rw [List.append_assoc];by_cases s:i<k
 ·have c:i<ls.length:=by omega
  obtain ⟨l,n,o,p⟩:=h.at_ i c;have e:(ls.take k++a::ls.drop k)[i]=ls[i]:=by rw [List.getElem_append_left (by omega),List.getElem_take]
  refine ⟨l,n,by rw [e];exact o,fun j x b=>?_⟩;have d:=(List.getElem?_eq_some_iff.1 b).1
  have f:i*sz+j<k*sz:=by
   have:(i+1)*sz<=k*sz:=Nat.mul_le_mul_right _ s;rw [Nat.succ_mul] at this;omega
  rw [List.getElem?_append_left (by omega),List.getElem?_take,if_pos f];exact p j x b
 ·by_cases t:i=k
  ·subst t
   have e:(ls.take i++a::ls.drop i)[i]=a:=by
    rw [List.getElem_append_right (by omega)];simp [g]
   refine ⟨xs,hx,by rw [e];exact ha,fun j x b=>?_⟩;have d:=(List.getElem?_eq_some_iff.1 b).1;rw [List.getElem?_append_right (by omega),t1,Nat.add_sub_cancel_left,List.append_assoc,List.getElem?_append_left d];exact b
  ·have c:i-1<ls.length:=by
    rw [List.length_append,g,List.length_cons,List.length_drop] at r;omega
   obtain ⟨l,n,o,p⟩:=h.at_ (i-1) c
   have e:(ls.take k++a::ls.drop k)[i]=ls[i-1]:=by
    rw [List.getElem_append_right (by omega)];obtain ⟨m,hm⟩:∃m,i=k+(m+1):=⟨i-k-1,by omega⟩;subst hm;simp only [g,Nat.add_sub_cancel_left,List.getElem_cons_succ,List.getElem_drop];congr 1
   refine ⟨l,n,by rw [e];exact o,fun j x b=>?_⟩;have d:=(List.getElem?_eq_some_iff.1 b).1;obtain ⟨m,hm⟩:∃m,i=k+1+m:=⟨i-k-1,by omega⟩;subst hm;have w:(k+1+m)*sz=k*sz+sz+m*sz:=by rw [Nat.add_mul,Nat.add_mul,Nat.one_mul]
   have u:(k+1+m-1)*sz=k*sz+m*sz:=by rw [show k+1+m-1=k+m by omega,Nat.add_mul]
   have:=p j x b;rw [u] at this
   have f:k*sz+m*sz+j<ls.length*sz:=by
    have:(k+m+1)*sz<=ls.length*sz:=Nat.mul_le_mul_right _ (by omega);rw [Nat.add_mul,Nat.add_mul,Nat.one_mul] at this;omega
   rw [List.getElem?_append_right (by omega),t1,List.append_assoc,List.getElem?_append_right (by omega),hx,List.getElem?_append_left (by omega),List.getElem?_drop,List.getElem?_take,if_pos (by omega)];rw [show k*sz+((k+1+m)*sz+j-k*sz-sz)=k*sz+m*sz+j by omega];exact this
theorem lst_cells {α:Type}{sz:Nat}{R:View->Value->α->Prop}{V:View}{p:OA}{n:Nat}{ls:List α}(h:Lst sz R V p n ls)(hs:0<sz):∃xs:List Value,V.sl p xs/\xs.length=ls.length*sz/\Row sz R V xs ls:=by
 have step:∀k,k<=ls.length->∃xs:List Value,V.sl p xs/\xs.length=k*sz/\Row sz R V xs (ls.take k):=by
  intro k
  induction k with
  | zero=>exact fun _=>⟨[],fun i v hv=>by simp at hv,by simp,by rw [List.take_zero];exact Row.nil⟩
  | succ k ih=>
   intro r;obtain ⟨xs,e,b,d⟩:=ih (by omega);obtain ⟨j,f,l,g,m,o⟩:=h.at_ k (by omega);have q:(ls.take k).length=k:=by rw [List.length_take];omega
   refine ⟨xs++l,fun i v hv=>?_,by rw [List.length_append,b,g,Nat.succ_mul],?_⟩
   ·by_cases c:i<xs.length
    ·rw [List.getElem?_append_left c] at hv;exact e i v hv
    ·rw [List.getElem?_append_right (by omega)] at hv
     cases p with
     | none=>cases f
     | some a=>
      obtain rfl:=Option.some.inj (show some (a.add (k*sz))=some j from f);have:=o _ v hv;rw [tH,b] at this;rw [show k*sz+(i-k*sz)=i by omega] at this;exact ⟨a,rfl,this⟩
   ·have:=d.snoc (sp:=[]) g m hs;rw [q,List.append_nil,List.take_of_length_le (by omega)] at this;rw [List.take_add_one,List.getElem?_eq_getElem (by omega)];exact this
 obtain ⟨xs,e,b,d⟩:=step ls.length (Nat.le_refl _);rw [List.take_length] at d;exact ⟨xs,e,b,d⟩
theorem row_append {α:Type}{sz:Nat}{R:View->Value->α->Prop}{V:View}{vs xs sp:List Value}{ls ms:List α}(h:Row sz R V vs ls)(h':Row sz R V xs ms)(hs:0<sz):Row sz R V (vs.take (ls.length*sz)++xs++sp) (ls++ms):=by
 have q:=h.jn hs;have o:=h'.jn hs;have n:(vs.take (ls.length*sz)).length=ls.length*sz:=by rw [List.length_take];omega
 refine ⟨fun i p=>?_⟩;by_cases c:i<ls.length
 ·obtain ⟨d,f,g,k⟩:=h.at_ i c;refine ⟨d,f,by rw [List.getElem_append_left c];exact g,fun j x a=>?_⟩;have l:=(List.getElem?_eq_some_iff.1 a).1
  have b:i*sz+j<ls.length*sz:=by
   have:(i+1)*sz<=ls.length*sz:=Nat.mul_le_mul_right _ c;rw [Nat.succ_mul] at this;omega
  rw [List.append_assoc,List.getElem?_append_left (by omega),List.getElem?_take,if_pos b];exact k j x a
 ·rw [List.length_append] at p;obtain ⟨m,rfl⟩:∃m,i=ls.length+m:=⟨i-ls.length,by omega⟩;have hm:m<ms.length:=by omega
  obtain ⟨d,f,g,k⟩:=h'.at_ m hm;refine ⟨d,f,?_,fun j x a=>?_⟩
  ·have e:(ls++ms)[ls.length+m]=ms[m]:=by rw [List.getElem_append_right (by omega)];simp
   rw [e];exact g
  ·have l:=(List.getElem?_eq_some_iff.1 a).1
   have b:m*sz+j<xs.length:=by
    have:(m+1)*sz<=ms.length*sz:=Nat.mul_le_mul_right _ hm;rw [Nat.succ_mul] at this;omega
   rw [List.append_assoc,List.getElem?_append_right (by rw [n,Nat.add_mul];omega),n,Nat.add_mul,List.getElem?_append_left (by omega)];rw [show ls.length*sz+m*sz+j-ls.length*sz=m*sz+j by omega];exact k j x a
theorem row_one_cell {α:Type}{sz:Nat}{R:View->Value->α->Prop}{V:View}{vs:List Value}{al:List α}(h:Row sz R V vs al)(hs:0<sz)(hc:∀xs a,R V (.agg (List.toArray xs)) a->∀v∈xs,v.oneCell'=true){m:Nat}(hm:m<al.length*sz){v:Value}(hv:vs[m]?=some v):v.oneCell'=true:=by
 have d:m / sz<al.length:=Nat.div_lt_of_lt_mul (by rw [Nat.mul_comm];exact hm);obtain ⟨xs,e,f,c⟩:=h.at_ (m / sz) d;have b:m%sz<xs.length:=by rw [e];exact Nat.mod_lt _ hs
 have g:m=m / sz*sz+m%sz:=by rw [Nat.mul_comm];exact (Nat.div_add_mod m sz).symm
 have:=c (m%sz) _ (List.getElem?_eq_getElem b);rw [←g,hv] at this;obtain rfl:=Option.some.inj this;exact hc xs _ f _ (List.getElem_mem b)
theorem FC {α:Type}{sz:Nat}{R:View->Value->α->Prop}{V:View}{w1 w2:Nat}{us:List Value}{O:List α}(hg:GR sz R V w1 w2 us O)(hs:0<sz)(one:∀xs a,R V (.agg (List.toArray xs)) a->∀v∈xs,v.oneCell'=true){bk:Nat}{ty:TypeId}{m:Nat×Nat}(hb:us≠[]->V.bg bk (.cells us.toArray ty m))
  {es:List Value}{x:α}(he:es.length=sz)(hx:R V (.agg es.toArray) x){j:Nat}(jle:j<=w1) :
  ∃xs ys:List Value,V.sl (pH (mA bk w2) w2 j sz) xs/\xs.length=(w1-j)*sz/\(∀v∈xs,v.oneCell'=true)/\V.sl (mA bk w2) ys/\ys.length=j*sz/\((mA bk w2).isNone=true->j=0) /\
   (∀sp:List Value,rowTake (es.take (1*sz)++xs++sp) 0 ((1+(w1-j))*sz)=es++xs)/\(es++xs).length / sz=1+(w1-j)/\(es++xs).length=(1+(w1-j))*sz/\(∀v∈es++xs,v.oneCell'=true) /\
   ∀(sp:List Value)(c':Nat),j+(1+(w1-j))<=c'->c'*sz<=(j+(1+(w1-j)))*sz+sp.length->GR sz R V (j+(1+(w1-j))) c' (ys++(es++xs)++sp) (O.take j++x::O.drop j):=by
 have n:=hg.len;have s:=hg.le;have o:=hg.cap;have p:=hg.row;have z:w1*sz<=w2*sz:=Nat.mul_le_mul_right _ s;have A:j*sz<=w1*sz:=Nat.mul_le_mul_right _ jle;have B:(w1-j)*sz=w1*sz-j*sz:=Nat.sub_mul ..
 have t:(1+(w1-j))*sz=sz+(w1-j)*sz:=by rw [Nat.add_mul,Nat.one_mul]
 have t1:(us.take (j*sz)).length=j*sz:=by rw [List.length_take];omega
 have t2:((us.take (w1*sz)).drop (j*sz)).length=(w1-j)*sz:=by rw [List.length_drop,List.length_take];omega
 have q:∀v∈(us.take (w1*sz)).drop (j*sz),v.oneCell'=true:=by
  intro v g;obtain ⟨k,hm,e⟩:=List.mem_iff_getElem.1 (List.mem_of_mem_drop g);have d:k<w1*sz:=by rw [List.length_take] at hm;omega
  have:=List.getElem?_eq_getElem hm;rw [e,List.getElem?_take,if_pos d] at this;exact row_one_cell p hs one (by rw [←n];exact d) this
 have f:0<w2->us≠[]:=fun hw e=>by
  have:0<w2*sz:=Nat.mul_pos hw hs;rw [e] at o;simp at o;omega
 have i:0<w2->mA bk w2=some ⟨bk,0,none⟩:=fun hw=>by unfold mA;rw [if_neg (by omega)]
 have at_:∀k v,0<w2->us[k]?=some v->V.at ⟨bk,k,none⟩ v:=fun k v hm g=>blk_at (hb (f hm)) g;have u:∀v∈es,v.oneCell'=true:=one _ _ hx;have b:(es++(us.take (w1*sz)).drop (j*sz)).length=(1+(w1-j))*sz:=by rw [List.length_append,t2,he,t]
 refine ⟨(us.take (w1*sz)).drop (j*sz),us.take (j*sz),?_,t2,q,?_,t1,?_,fun sp=>?_,by rw [b];exact Nat.mul_div_cancel _ hs,b,fun v hv=>(List.mem_append.1 hv).elim (u v) (q v),fun sp c' w C=>?_⟩
 ·intro k v hm;have c:=(List.getElem?_eq_some_iff.1 hm).1;rw [t2] at c;rw [List.getElem?_drop,List.getElem?_take,if_pos (by omega)] at hm
  have D:j<w2:=by
   rcases Nat.lt_or_ge j w2 with h|h
   ·exact h
   ·have:w1-j=0:=by omega
    rw [this,Nat.zero_mul] at c;omega
  have:=at_ (j*sz+k) v (by omega) hm;refine ⟨⟨bk,j*sz,none⟩,?_,?_⟩
  ·unfold pH;rw [if_neg (by omega),i (by omega)];simp [addrAdd,add_zero']
  ·rw [←add_zero',tH,add_zero'];exact this
 ·intro k v hm;have c:=(List.getElem?_eq_some_iff.1 hm).1;rw [t1] at c;rw [List.getElem?_take,if_pos c] at hm
  have hw:0<w2:=by
   rcases Nat.eq_zero_or_pos w2 with h|h
   ·have:j=0:=by omega
    rw [this,Nat.zero_mul] at c;omega
   ·exact h
  exact ⟨⟨bk,0,none⟩,i hw,by rw [add_zero'];exact at_ k v hw hm⟩
 ·intro r;by_cases hw:0<w2
  ·rw [i hw] at r;cases r
  ·omega
 ·have y:es.take (1*sz)=es:=by rw [Nat.one_mul,←he,List.take_length]
  rw [y];unfold rowTake;rw [Nat.ble_eq_true_of_le (by rw [List.length_append,b];omega),cond_true,List.drop_zero,List.take_append_of_le_length (by rw [b];exact Nat.le_refl _),List.take_of_length_le (by rw [b];exact Nat.le_refl _)]
 ·have l:j<=O.length:=by omega
  refine ⟨by rw [List.length_append,List.length_take,List.length_cons,List.length_drop];omega,w,?_,?_⟩
  ·have E:(j+(1+(w1-j)))*sz=j*sz+(1+(w1-j))*sz:=Nat.add_mul ..
   rw [List.length_append,List.length_append,t1,b];omega
  ·rw [n];exact vj p l he hx hs
end Go.Proofs.Tryz
namespace Go.Proofs.Tryz
open Go.Big
section
variable {α:Type}
structure Ord (c:α->α->Int):Prop where
 Om:∀a b,c a b<0->¬c b a<0
 tr:∀a b d,¬c a b<0->¬c b d<0->¬c a d<0
variable {c:α->α->Int}
theorem Ord.le (h:Ord c){a b:α}(l:c a b<0):¬c b a<0:=h.Om a b l
theorem Ord.refl (h:Ord c)(a:α):¬c a a<0:=fun l=>h.Om a a l l
def rR (d:α)(l:List α)(i j:Nat):List α:=(l.set i (l.getD j d)).set j (l.getD i d)
variable {d:α}
theorem pJ {l:List α}{i j:Nat}:(rR d l i j).length=l.length:=by simp [rR]
theorem oM {l:List α}{i k:Nat}{x:α}(hi:i<l.length):(l.set i x).getD k d=if k=i then x else l.getD k d:=by
 simp only [List.getD_eq_getElem?_getD,List.getElem?_set];by_cases h:k=i
 ·subst h;simp [hi]
 ·have:¬i=k:=fun e=>h e.symm;simp [h,this]
theorem nN {l:List α}{i j k:Nat}(hi:i<l.length)(hj:j<l.length):(rR d l i j).getD k d=if k=j then l.getD i d else if k=i then l.getD j d else l.getD k d:=by
 unfold rR;rw [oM (by simpa using hj),oM hi]
theorem JK {l:List α}{i j:Nat}(hi:i<l.length)(hj:j<l.length):(rR d l i j).Perm l:=by
 have h:=Array.swap_perm (xs:=l.toArray) (i:=i) (j:=j) (by simpa using hi) (by simpa using hj)
 have e:(l.toArray.swap i j (by simpa using hi) (by simpa using hj)).toList=rR d l i j:=by
  simp [Array.swap,rR,List.getD_eq_getElem?_getD,hi,hj]
 have:=h.toList;rw [e] at this;simpa using this
structure re (d:α) (l m:List α) (a b:Nat):Prop where
 len:m.length=l.length
 out:∀k,¬(a<=k/\k<b)->m.getD k d=l.getD k d
 mem:∀k,a<=k->k<b->∃k',a<=k'/\k'<b/\m.getD k d=l.getD k' d
 perm:m.Perm l
theorem re.refl (l:List α)(a b:Nat):re d l l a b:=⟨rfl,fun _ _=>rfl,fun k h c=>⟨k,h,c,rfl⟩,.refl _⟩
theorem re.trans {l m n:List α}{a b:Nat}(h:re d l m a b)(g:re d m n a b):re d l n a b:=
 ⟨g.len.trans h.len,fun k f=>(g.out k f).trans (h.out k f),fun k i j=>by
  obtain ⟨o,p,q,e⟩:=g.mem k i j;obtain ⟨c,r,s,t⟩:=h.mem o p q;exact ⟨c,r,s,e.trans t⟩,g.perm.trans h.perm⟩
theorem re.wide {l m:List α}{a b a' b':Nat}(h:re d l m a b)(ha:a'<=a)(hb:b<=b'):re d l m a' b':=
 ⟨h.len,fun k c=>h.out k (by omega),fun k f g=>by
  by_cases c:a<=k/\k<b
  ·obtain ⟨i,j,n,e⟩:=h.mem k c.1 c.2;exact ⟨i,by omega,by omega,e⟩
  ·exact ⟨k,f,g,h.out k c⟩,h.perm⟩
theorem re.rR {l:List α}{a b i j:Nat}(hi:a<=i)(hi':i<b)(hj:a<=j)(hj':j<b)(hb:b<=l.length):re d l (rR d l i j) a b:=by
 refine ⟨pJ,fun k f=>?_,fun k c e=>?_,JK (by omega) (by omega)⟩
 ·rw [nN (by omega) (by omega),if_neg (by omega),if_neg (by omega)]
 ·rw [nN (by omega) (by omega)];split
  ·exact ⟨i,hi,hi',rfl⟩
  ·split
   ·exact ⟨j,hj,hj',rfl⟩
   ·exact ⟨k,c,e,rfl⟩
def wH (c:α->α->Int)(d:α)(l:List α)(a b:Nat):Prop:=∀p q,a<=p->p<q->q<b->¬c (l.getD q d) (l.getD p d)<0
theorem wH.short {l:List α}{a b:Nat}(h:b<=a+1):wH c d l a b:=fun p q e f g=>by omega
theorem wH.step (ho:Ord c){l:List α}{a b:Nat}(h:wH c d l a b)(h0:a<b)(hb:¬c (l.getD b d) (l.getD (b-1) d)<0):wH c d l a (b+1):=by
 intro p q f g j;by_cases e:q=b
 ·subst e;by_cases i:p=q-1
  ·subst i;exact hb
  ·exact ho.tr _ _ _ hb (h p (q-1) f (by omega) (by omega))
 ·exact h p q f g (by omega)
def MK (c:α->α->Int)(d:α)(l:List α)(a i j:Nat):Prop:=∀p q,a<=p->p<q->q<=i->q≠j->¬c (l.getD q d) (l.getD p d)<0
theorem MK.start {l:List α}{a i:Nat}(h:wH c d l a i):MK c d l a i i:=fun p q b e f g=>h p q b e (by omega)
theorem MK.done (ho:Ord c){l:List α}{a i j:Nat}(h:MK c d l a i j)(hji:j<=i)(hs:j<=a\/¬c (l.getD j d) (l.getD (j-1) d)<0):wH c d l a (i+1):=by
 intro p q b f k;by_cases e:q=j
 ·subst e;rcases hs with hs|hs
  ·omega
  ·by_cases g:p=q-1
   ·subst g;exact hs
   ·exact ho.tr _ _ _ hs (h p (q-1) b (by omega) (by omega) (by omega))
 ·exact h p q b f (by omega) e
theorem MK.move (ho:Ord c){l:List α}{a i j:Nat}(h:MK c d l a i j)(hj:a<j)(hji:j<=i)(hi:i<l.length)(hl:c (l.getD j d) (l.getD (j-1) d)<0):MK c d (rR d l j (j-1)) a i (j-1):=by
 intro p q f n e o;have g:=fun k=>nN (d:=d) (l:=l) (i:=j) (j:=j-1) (k:=k) (by omega) (by omega);rw [g,g];by_cases eq:q=j
 ·subst eq;rw [if_neg (by omega),if_pos rfl];by_cases b:p=q-1
  ·rw [if_pos b];exact ho.Om _ _ hl
  ·rw [if_neg b,if_neg (by omega)];exact h p (q-1) f (by omega) (by omega) (by omega)
 ·rw [if_neg o,if_neg eq];by_cases b:p=j-1
  ·rw [if_pos b];exact h j q (by omega) (by omega) e eq
  ·rw [if_neg b];by_cases m:p=j
   ·rw [if_pos m];exact h (j-1) q (by omega) (by omega) e eq
   ·rw [if_neg m];exact h p q f n e eq
def Hp (c:α->α->Int)(d:α)(l:List α)(f lo hi:Nat)(r:Option Nat):Prop:=
 (∀i k,lo<=i->(k=2*i+1\/k=2*i+2)->k<hi->r≠some i->¬c (l.getD (f+i) d) (l.getD (f+k) d)<0) /\
 (∀i j k,r=some j->lo<=i->(j=2*i+1\/j=2*i+2)->(k=2*j+1\/k=2*j+2)->k<hi->¬c (l.getD (f+i) d) (l.getD (f+k) d)<0)
theorem Hp.top (ho:Ord c){l:List α}{f hi:Nat}(h:Hp c d l f 0 hi none):∀k,k<hi->¬c (l.getD f d) (l.getD (f+k) d)<0:=by
 intro k
 induction k using Nat.strongRecOn with
 | ind k ih=>
  intro a;by_cases b:k=0
  ·subst b;exact ho.refl _
  ·exact ho.tr _ _ _ (ih ((k-1) / 2) (by omega) (by omega)) (h.1 ((k-1) / 2) k (by omega) (by omega) a (by simp))
theorem Hp.leaf {l:List α}{f lo hi r:Nat}(h:Hp c d l f lo hi (some r))(hr:hi<=2*r+1):Hp c d l f lo hi none:=
 ⟨fun i k a b g _=>by
  by_cases e:r=i
  ·omega
  ·exact h.1 i k a b g (by simpa using e),fun i j k e=>by cases e⟩
theorem Hp.stop (ho:Ord c){l:List α}{f lo hi r k:Nat}(h:Hp c d l f lo hi (some r))(hk:k=2*r+1\/k=2*r+2)(hm:∀k',(k'=2*r+1\/k'=2*r+2)->k'<hi->¬c (l.getD (f+k) d) (l.getD (f+k') d)<0)
  (hs:¬c (l.getD (f+r) d) (l.getD (f+k) d)<0):Hp c d l f lo hi none:=
 ⟨fun i k' g a b _=>by
  by_cases e:r=i
  ·subst e;exact ho.tr _ _ _ hs (hm k' a b)
  ·exact h.1 i k' g a b (by simpa using e),fun i j k e=>by cases e⟩
theorem Hp.down (ho:Ord c){l:List α}{f lo hi r k:Nat}(h:Hp c d l f lo hi (some r))(hlo:lo<=r)(hl:f+hi<=l.length)(hk:k=2*r+1\/k=2*r+2)(hkh:k<hi)(hm:∀k',(k'=2*r+1\/k'=2*r+2)->k'<hi->¬c (l.getD (f+k) d) (l.getD (f+k') d)<0)
  (hs:c (l.getD (f+r) d) (l.getD (f+k) d)<0):Hp c d (rR d l (f+r) (f+k)) f lo hi (some k):=by
 have a:=fun x=>nN (d:=d) (l:=l) (i:=f+r) (j:=f+k) (k:=x) (by omega) (by omega);refine ⟨fun i k' n b g m=>?_,fun i j k' e n b g m=>?_⟩
 ·have m:¬i=k:=fun e=>m (by rw [e]);rw [a,a,if_neg (show ¬f+i=f+k by omega)];by_cases p:i=r
  ·subst p;rw [if_pos rfl];by_cases o:k'=k
   ·rw [if_pos (by omega)];exact ho.Om _ _ hs
   ·rw [if_neg (by omega),if_neg (by omega)];exact hm k' b g
  ·rw [if_neg (by omega)];by_cases o:k'=r
   ·subst o;rw [if_neg (by omega),if_pos rfl];exact h.2 i k' k rfl n b hk hkh
   ·rw [if_neg (by omega),if_neg (by omega)];exact h.1 i k' n b g (by simp;omega)
 ·cases e;rw [a,a];have:i=r:=by omega
  subst this;rw [if_neg (by omega),if_pos rfl,if_neg (by omega),if_neg (by omega)];exact h.1 k k' (by omega) g m (by simp;omega)
theorem Hp.more {l:List α}{f lo hi:Nat}(h:Hp c d l f (lo+1) hi none):Hp c d l f lo hi (some lo):=
 ⟨fun i k m a b g=>h.1 i k (by have:¬lo=i:=fun e=>g (by rw [e]);omega) a b (by simp),fun i j k e m a b g=>by cases e;omega⟩
def Sep (c:α->α->Int)(d:α)(l:List α)(a m b:Nat):Prop:=∀p q,a<=p->p<m->m<=q->q<b->¬c (l.getD q d) (l.getD p d)<0
theorem re.sep {l m:List α}{a b x y z:Nat}(h:re d l m a b)(hs:Sep c d l x y z)(hc:(x<=a/\b<=y)\/(y<=a/\b<=z)\/b<=x\/z<=a):Sep c d m x y z:=by
 intro p q r s t u
 have key:∀k,∃f,m.getD k d=l.getD f d/\(k=f\/a<=k/\k<b/\a<=f/\f<b):=fun k=>by
  by_cases g:a<=k/\k<b
  ·obtain ⟨f,i,j,e⟩:=h.mem k g.1 g.2;exact ⟨f,e,.inr ⟨g.1,g.2,i,j⟩⟩
  ·exact ⟨k,h.out k g,.inl rfl⟩
 obtain ⟨n,i,j⟩:=key p;obtain ⟨o,f1,f2⟩:=key q;rw [i,f1];exact hs n o (by omega) (by omega) (by omega) (by omega)
theorem re.asc {l m:List α}{a b x y:Nat}(h:re d l m a b)(hs:wH c d l x y)(hc:y<=a\/b<=x):wH c d m x y:=by
 intro p q e f g;rw [h.out p (by omega),h.out q (by omega)];exact hs p q e f g
theorem wH.join {l:List α}{a m b:Nat}(h1:wH c d l a m)(h2:wH c d l m b)(h3:Sep c d l a m b):wH c d l a b:=by
 intro p q e f g;by_cases h:q<m
 ·exact h1 p q e f h
 ·by_cases i:m<=p
  ·exact h2 p q i f g
  ·exact h3 p q e (by omega) (by omega) g
end
end Go.Proofs.Tryz
namespace Go.Proofs.Tryz.Sec
abbrev V2:=Rat×Rat
def cr (u v:V2):Rat:=u.1*v.2-u.2*v.1
def dt (u v:V2):Rat:=u.1*v.1+u.2*v.2
def QY (u:V2):V2:=(-u.2,u.1)
def up (u:V2):Prop:=u.2>0\/u.2=0/\u.1>0
def dn (u:V2):Prop:=u.2<0\/u.2=0/\u.1<0
def nz (u:V2):Prop:=u.1≠0\/u.2≠0
def sf (u v:V2):Prop:=(up u/\dn v)\/((up u/\up v\/dn u/\dn v)/\cr u v>0)
def Kg (a:Rat)(u:V2)(b:Rat)(w:V2):V2:=(a*u.1+b*w.1,a*u.2+b*w.2)
def T3 (s r:V2):Prop:=∃c:Rat,c>0/\s.1=-(c*r.1)/\s.2=-(c*r.2)
theorem lZ {u:V2}(h:nz u):up u\/dn u:=by unfold nz at h;unfold up dn;grind
theorem eH {u:V2}(h:up u)(h':dn u):False:=by unfold up at h;unfold dn at h';grind
theorem gw (u v:V2):cr v u=-cr u v:=by unfold cr;grind
theorem Ny (u w r:V2):cr u r*w.1+cr r w*u.1=cr u w*r.1:=by unfold cr;grind
theorem Em (u w r:V2):cr u r*w.2+cr r w*u.2=cr u w*r.2:=by unfold cr;grind
theorem D5 (r:V2)(a:Rat)(u:V2)(b:Rat)(w:V2):cr r (Kg a u b w)=a*cr r u+b*cr r w:=by unfold cr Kg;grind
theorem MY (r u:V2):cr r (QY u)=dt r u:=by unfold cr QY dt;grind
theorem Al {s r:V2}(h:T3 s r)(z:V2):∃c:Rat,c>0/\cr s z=-(c*cr r z)/\cr z s=-(c*cr z r):=by
 obtain ⟨c,d,a,b⟩:=h;exact ⟨c,d,by unfold cr;rw [a,b];grind,by unfold cr;rw [a,b];grind⟩
theorem mp {a b:Rat}(ha:a>0)(hb:b>0):a*b>0:=Rat.mul_pos ha hb
theorem mn {a b:Rat}(ha:a≥0)(hb:b≥0):a*b≥0:=Rat.mul_nonneg ha hb
theorem b1 {u w r:V2}(hu:up u)(hw:dn w)(hr:up r)(a:cr u r>0)(b:cr r w<=0)(c:cr u w≥0):False:=by
 have e:=Em u w r;unfold up at hu hr;unfold dn at hw;have f:cr u r*(-w.2)≥0:=mn (by grind) (by grind);have g:(-(cr r w))*u.2≥0:=mn (by grind) (by grind);have i:cr u w*r.2≥0:=mn c (by grind);have d:cr u r*w.2=0:=by grind
 have j:w.2=0:=by rcases Rat.mul_eq_zero.1 d with h|h<;>grind
 have k:w.1<0:=by grind
 have l:cr r w=-(r.2*w.1):=by unfold cr;grind
 have m:r.2=0:=by
  by_cases h:r.2>0
  ·have:=mp h (show -w.1>0 by grind);grind
  ·grind
 have n:r.1>0:=by grind
 have o:cr u r=-(u.2*r.1):=by unfold cr;grind
 have:=mn (show u.2≥0 by grind) (show r.1≥0 by grind);grind
theorem b2 {u w r:V2}(hu:up u)(hw:dn w)(hr:dn r)(a:cr u r<=0)(b:cr r w>0)(c:cr u w≥0):False:=by
 have e:=Em u w r;unfold up at hu;unfold dn at hw hr;have g:(-(cr u r))*(-w.2)≥0:=mn (by grind) (by grind);have i:cr r w*u.2≥0:=mn (by grind) (by grind);have j:cr u w*(-r.2)≥0:=mn c (by grind);have d:cr r w*u.2=0:=by grind
 have k:u.2=0:=by rcases Rat.mul_eq_zero.1 d with h|h<;>grind
 have f:u.1>0:=by grind
 have l:cr u w=u.1*w.2:=by unfold cr;grind
 have m:w.2=0:=by
  by_cases h:w.2<0
  ·have:=mp f (show -w.2>0 by grind);grind
  ·grind
 have n:w.1<0:=by grind
 have o:cr r w=-(r.2*w.1):=by unfold cr;grind
 have:=mn (show -r.2≥0 by grind) (show -w.1≥0 by grind);grind
theorem b3 {u w r:V2}(hu:dn u)(hw:up w)(hr:dn r)(a:cr u r>0)(b:cr r w<=0)(c:cr u w≥0):False:=by
 have e:=Em u w r;unfold dn at hu hr;unfold up at hw;have g:cr u r*w.2≥0:=mn (by grind) (by grind);have i:(-(cr r w))*(-u.2)≥0:=mn (by grind) (by grind);have j:cr u w*(-r.2)≥0:=mn c (by grind);have d:cr u r*w.2=0:=by grind
 have k:w.2=0:=by rcases Rat.mul_eq_zero.1 d with h|h<;>grind
 have f:w.1>0:=by grind
 have l:cr r w=-(r.2*w.1):=by unfold cr;grind
 have m:r.2=0:=by
  by_cases h:r.2<0
  ·have:=mp f (show -r.2>0 by grind);grind
  ·grind
 have n:r.1<0:=by grind
 have o:cr u r=-(u.2*r.1):=by unfold cr;grind
 have:=mn (show -u.2≥0 by grind) (show -r.1≥0 by grind);grind
theorem b4 {u w r:V2}(hu:dn u)(hw:up w)(hr:up r)(a:cr u r<=0)(b:cr r w>0)(c:cr u w≥0):False:=by
 have e:=Em u w r;unfold dn at hu;unfold up at hw hr;have f:(-(cr u r))*w.2≥0:=mn (by grind) (by grind);have g:cr r w*(-u.2)≥0:=mn (by grind) (by grind);have i:cr u w*r.2≥0:=mn c (by grind);have d:cr r w*u.2=0:=by grind
 have j:u.2=0:=by rcases Rat.mul_eq_zero.1 d with h|h<;>grind
 have k:u.1<0:=by grind
 have l:cr u w=u.1*w.2:=by unfold cr;grind
 have m:w.2=0:=by
  by_cases h:w.2>0
  ·have:=mp h (show -u.1>0 by grind);grind
  ·grind
 have n:w.1>0:=by grind
 have o:cr r w=-(r.2*w.1):=by unfold cr;grind
 have:=mn (show r.2≥0 by grind) (show w.1≥0 by grind);grind
structure LP (D:List V2):Prop where
 nz:∀r∈D,nz r
 cl:∀r∈D,∃s∈D,T3 s r
 asc:D.Pairwise sf
def ss (a b:Rat):Prop:=(b>0->a>0)/\(b<0->a<0)
theorem jg {u v:V2}(hu:up u)(hv:up v):sf u v->cr u v>0:=by
 rintro (⟨_,h⟩|⟨_,h⟩)
 ·exact (eH hv h).elim
 ·exact h
theorem ib {u v:V2}(hu:dn u)(hv:dn v):sf u v->cr u v>0:=by
 rintro (⟨h,_⟩|⟨_,h⟩)
 ·exact (eH h hu).elim
 ·exact h
theorem eW {u v:V2}(hu:dn u)(hv:up v):¬sf u v:=by
 rintro (⟨h,_⟩|⟨⟨h,_⟩|⟨_,h⟩,_⟩)
 ·exact eH h hu
 ·exact eH h hu
 ·exact eH hv h
section
variable {D:List V2} (h:LP D) {v:V2} (hv:∀r ∈ D,cr r v≠0)
include h hv
omit hv in
theorem yP {i j:Nat}{a b:V2}(hi:D[i]?=some a)(hj:D[j]?=some b)(KL:i<j):sf a b:=by
 obtain ⟨c,d⟩:=List.getElem?_eq_some_iff.1 hi;obtain ⟨e,f⟩:=List.getElem?_eq_some_iff.1 hj;have:=List.pairwise_iff_getElem.1 h.asc i j c e KL
 rwa [d,f] at this
end
theorem Qx {r:V2}(h:nz r){c:Rat}(h1:c*r.1=0)(h2:c*r.2=0):c=0:=by
 rcases Rat.mul_eq_zero.1 h1 with e|e
 ·exact e
 ·rcases Rat.mul_eq_zero.1 h2 with a|a
  ·exact a
  ·unfold nz at h;grind
theorem sq_pos {u:V2}(h:nz u):dt u u>0:=by
 have a:∀x:Rat,x*x≥0:=fun x=>by
  by_cases b:x≥0
  ·exact mn b b
  ·have:=mn (show -x≥0 by grind) (show -x≥0 by grind);grind
 have:=a u.1;have:=a u.2;unfold dt;by_cases c:u.1*u.1+u.2*u.2>0
 ·exact c
 ·unfold nz at h;have d:u.1*u.1=0:=by grind
  have f:u.2*u.2=0:=by grind
  rcases Rat.mul_eq_zero.1 d with e|e<;>rcases Rat.mul_eq_zero.1 f with e'|e'<;>grind
def Gb (u w v':V2):Prop:=cr u w>0/\(∃a b:Rat,a>0/\b>0/\v'=Kg a u b w)\/cr u w<=0/\∃a:Rat,a>0/\v'=Kg a (QY u) 0 w
section
variable {D:List V2} (h:LP D)
include h
end
theorem OM {u w s:V2}(nu:nz u)(nw:nz w)(ns:nz s)(o:sf s u/\sf u w\/sf u w/\sf w s\/sf w s/\sf s u)
  (a:cr u s>0)(b:cr s w>0)(c:cr u w>0):False:=by
 have l:=Em u w s;have m:=Ny u w s;have s1:=gw u s;have s2:=gw s w;rcases lZ nu with hu|hu<;>rcases lZ nw with hw|hw<;>rcases lZ ns with hs|hs
 ·rcases o with ⟨p,q⟩|⟨p,q⟩|⟨p,q⟩
  ·have:=jg hs hu p;grind
  ·have:=jg hw hs q;grind
  ·have:=jg hw hs p;grind
 ·unfold up at hu hw;unfold dn at hs;have i:=mn (show cr u s≥0 by grind) (show w.2≥0 by grind);have j:=mn (show cr s w≥0 by grind) (show u.2≥0 by grind);have k:=mn (show cr u w≥0 by grind) (show -s.2≥0 by grind);have d:cr u s*w.2=0:=by grind
  have e:cr s w*u.2=0:=by grind
  have f:w.2=0:=by rcases Rat.mul_eq_zero.1 d with h|h<;>grind
  have g:u.2=0:=by rcases Rat.mul_eq_zero.1 e with h|h<;>grind
  unfold cr at c;rw [f,g] at c;grind
 ·rcases o with ⟨p,q⟩|⟨p,q⟩|⟨p,q⟩
  ·have:=jg hs hu p;grind
  ·exact eW hw hs q
  ·exact eW hw hs p
 ·rcases o with ⟨p,q⟩|⟨p,q⟩|⟨p,q⟩
  ·exact eW hs hu p
  ·have:=ib hw hs q;grind
  ·exact eW hs hu q
 ·rcases o with ⟨p,q⟩|⟨p,q⟩|⟨p,q⟩
  ·exact eW hu hw q
  ·exact eW hu hw p
  ·have:=jg hw hs p;grind
 ·rcases o with ⟨p,q⟩|⟨p,q⟩|⟨p,q⟩
  ·exact eW hu hw q
  ·exact eW hu hw p
  ·have:=ib hs hu q;grind
 ·unfold dn at hu hw;unfold up at hs;have i:=mn (show cr u s≥0 by grind) (show -w.2≥0 by grind);have j:=mn (show cr s w≥0 by grind) (show -u.2≥0 by grind);have k:=mn (show cr u w≥0 by grind) (show s.2≥0 by grind);have d:cr u s*w.2=0:=by grind
  have e:cr s w*u.2=0:=by grind
  have f:w.2=0:=by rcases Rat.mul_eq_zero.1 d with h|h<;>grind
  have g:u.2=0:=by rcases Rat.mul_eq_zero.1 e with h|h<;>grind
  unfold cr at c;rw [f,g] at c;grind
 ·rcases o with ⟨p,q⟩|⟨p,q⟩|⟨p,q⟩
  ·have:=ib hs hu p;grind
  ·have:=ib hw hs q;grind
  ·have:=ib hw hs p;grind
theorem LW {u w s:V2}(nu:nz u)(nw:nz w)(ns:nz s)(o:sf s u/\sf u w\/sf u w/\sf w s\/sf w s/\sf s u)
  (a:cr u s>0)(c:cr u w<=0):False:=by
 have s1:=gw u s;rcases lZ nu with hu|hu<;>rcases lZ ns with hs|hs
 ·rcases o with ⟨p,q⟩|⟨p,q⟩|⟨p,q⟩
  ·have:=jg hs hu p;grind
  ·rcases lZ nw with hw|hw
   ·have:=jg hu hw p;grind
   ·exact eW hw hs q
  ·have:=jg hs hu q;grind
 ·rcases o with ⟨p,q⟩|⟨p,q⟩|⟨p,q⟩
  ·exact eW hs hu p
  ·rcases lZ nw with hw|hw
   ·have:=jg hu hw p;grind
   ·exact b2 hu hs hw c (ib hw hs q) (by grind)
  ·exact eW hs hu q
 ·rcases o with ⟨p,q⟩|⟨p,q⟩|⟨p,q⟩
  ·rcases lZ nw with hw|hw
   ·exact eW hu hw q
   ·have:=ib hu hw q;grind
  ·rcases lZ nw with hw|hw
   ·exact eW hu hw p
   ·have:=ib hu hw p;grind
  ·rcases lZ nw with hw|hw
   ·exact b4 hu hs hw c (jg hw hs p) (by grind)
   ·exact eW hw hs p
 ·rcases o with ⟨p,q⟩|⟨p,q⟩|⟨p,q⟩
  ·have:=ib hs hu p;grind
  ·rcases lZ nw with hw|hw
   ·exact eW hu hw p
   ·have:=ib hu hw p;grind
  ·have:=ib hs hu q;grind
section
variable {D:List V2} (h:LP D)
include h
theorem Sq {i k:Nat}{u w s:V2}(hi:D[i]?=some u)(hw:D[(i+1)%D.length]?=some w)(hk:D[k]?=some s)
  (n1:k≠i)(n2:k≠(i+1)%D.length):sf s u/\sf u w\/sf u w/\sf w s\/sf w s/\sf s u:=by
 have li:i<D.length:=(List.getElem?_eq_some_iff.1 hi).1;have c:k<D.length:=(List.getElem?_eq_some_iff.1 hk).1;by_cases b:i+1<D.length
 ·rw [Nat.mod_eq_of_lt b] at hw n2;by_cases a:k<i
  ·exact .inl ⟨yP h hk hi a,yP h hi hw (by omega)⟩
  ·exact .inr (.inl ⟨yP h hi hw (by omega),yP h hw hk (by omega)⟩)
 ·have:i+1=D.length:=by omega
  rw [this,Nat.mod_self] at hw n2;exact .inr (.inr ⟨yP h hw hk (by omega),yP h hk hi (by omega)⟩)
theorem N6 {i:Nat}{u w v':V2}(hi:D[i]?=some u)(hw:D[(i+1)%D.length]?=some w)(hs:Gb u w v') :
  ∀r∈D,cr r v'≠0:=by
 intro r f z;have hu:u∈D:=List.mem_of_getElem? hi;have m:w∈D:=List.mem_of_getElem? hw;have o:=sq_pos (h.nz u hu);have t:=sq_pos (h.nz r f);rcases hs with ⟨c,a,b,n,B,rfl⟩|⟨c,a,n,rfl⟩
 ·
  have key:∀s∈D,cr s (Kg a u b w)=0->cr u s>0->False:=fun s hs z p=>by
   have s1:=gw u s;rw [D5,s1] at z
   have q:cr s w>0:=by
    by_cases q:cr s w>0
    ·exact q
    ·have:=mp n p;have:=mn (show b≥0 by grind) (show -(cr s w)≥0 by grind);grind
   obtain ⟨k,d⟩:=List.getElem?_of_mem hs;refine OM (h.nz u hu) (h.nz w m) (h.nz s hs) (Sq h hi hw d (fun e=>?_) (fun e=>?_)) p q c
   ·rw [e,hi] at d;cases d;unfold cr at p;grind
   ·rw [e,hw] at d;cases d;unfold cr at q;grind
  by_cases p:cr u r>0
  ·exact key r f z p
  ·obtain ⟨s,hs,g⟩:=h.cl r f;obtain ⟨k,j,v,l⟩:=Al g u;obtain ⟨C,x,y,_⟩:=Al g (Kg a u b w);by_cases q:cr u r=0
   ·have s1:=gw u r;rw [D5,s1,q] at z;have:b*cr r w=0:=by grind
    have A:cr r w=0:=by rcases Rat.mul_eq_zero.1 this with e|e<;>grind
    have E:=Ny u w r;have F:=Em u w r;have:=Qx (h.nz r f) (c:=cr u w) (by grind) (by grind);grind
   ·refine key s hs (by rw [y,z];grind) ?_;rw [l];have:=mp j (show -(cr u r)>0 by grind);grind
 ·have key:∀s∈D,cr u s>0->False:=fun s hs p=>by
   obtain ⟨k,d⟩:=List.getElem?_of_mem hs;refine LW (h.nz u hu) (h.nz w m) (h.nz s hs) (Sq h hi hw d (fun e=>?_) (fun e=>?_)) p c
   ·rw [e,hi] at d;cases d;unfold cr at p;grind
   ·rw [e,hw] at d;cases d;grind
  rw [D5,MY] at z
  have d0:dt r u=0:=by
   have:a*dt r u=0:=by grind
   rcases Rat.mul_eq_zero.1 this with e|e<;>grind
  have G:cr u r≠0:=fun e=>by
   have:cr u r*cr u r+dt r u*dt r u=dt u u*dt r r:=by unfold cr dt;grind
   have:=mp o t;grind
  by_cases p:cr u r>0
  ·exact key r f p
  ·obtain ⟨s,hs,g⟩:=h.cl r f;obtain ⟨k,j,v,l⟩:=Al g u;refine key s hs ?_;rw [l];have:=mp j (show -(cr u r)>0 by grind);grind
def Ri (D S:List V2):Prop:=(D=[]/\S=[(1,0)])\/D≠[]/\(∀x∈S,∃i u w,D[i]?=some u/\D[(i+1)%D.length]?=some w/\Gb u w x) /\
 ∀i u w,D[i]?=some u->D[(i+1)%D.length]?=some w->∃x∈S,Gb u w x
theorem Lw {S:List V2}(hS:Ri D S):∀x∈S,∀r∈D,cr r x≠0:=by
 rcases hS with ⟨rfl,rfl⟩|⟨_,d,_⟩
 ·intro x _ r e;cases e
 ·intro x f;obtain ⟨i,u,w,a,b,c⟩:=d x f;exact N6 h a b c
end
end Go.Proofs.Tryz.Sec
namespace Go.Proofs.Tryz
open Go.Eng
def Sent (V:View)(g:Nat)(y:Value):Prop:=V.at ⟨g,0,none⟩ y
theorem Sent.le {V V':View}{g:Nat}{y:Value}(h:Sent V g y)(l:V.Le V'):Sent V' g y:=l.at h
def SErr (y:Value):Prop:=∃a:Addr,y=.iface 335 (.pointer (some a))
section
open Go.RowKit Go.Extern.Stop Go.Stop Go.Extern
end
end Go.Proofs.Tryz
namespace Go.Big
def bF (n:Nat):Nat:=if n=0 then 0 else n.log2+1
theorem oT (n:Nat):n<2^bF n:=by
 unfold bF;split
 ·subst_vars;decide
 ·exact Nat.lt_log2_self
theorem oS {n:Nat}(h:n≠0):2^(bF n-1)<=n:=by
 unfold bF;rw [if_neg h];exact Nat.log2_self_le h
theorem rj {n b:Nat}(h0:n<2^b)(h1:b=0\/2^(b-1)<=n):bF n=b:=by
 rcases h1 with h1|h1
 ·subst h1;have:n=0:=by simpa using h0
  subst this;rfl
 ·have a:n≠0:=by have:=Nat.two_pow_pos (b-1);omega
  have c:=oT n;have d:=oS a;have e:¬bF n<b:=fun h=>by have:=Nat.pow_le_pow_right (n:=2) (by omega) (show bF n<=b-1 by omega);omega
  have f:¬b<bF n:=fun h=>by have:=Nat.pow_le_pow_right (n:=2) (by omega) (show b<=bF n-1 by omega);omega
  omega
theorem iO {n b:Nat}:bF n<=b↔n<2^b:=by
 constructor
 ·intro h;exact Nat.lt_of_lt_of_le (oT n) (Nat.pow_le_pow_right (by omega) h)
 ·intro h;rcases Nat.lt_or_ge b (bF n) with a|a
  ·have c:n≠0:=by intro e;subst e;simp [bF] at a
   have:=oS c;have:=Nat.pow_le_pow_right (n:=2) (by omega) (show b<=bF n-1 by omega);omega
  ·exact a
theorem tP {n k:Nat}(h:2^k<=n):bF (n / 2^k)+k=bF n:=by
 have a:=Nat.two_pow_pos k;have b:n / 2^k≠0:=by have:=Nat.div_pos h a;omega
 have c:=oT (n / 2^k);have d:=oS b;refine (rj ?_ (.inr ?_)).symm
 ·rw [Nat.pow_add];exact (Nat.div_lt_iff_lt_mul a).1 c
 ·have e:0<bF (n / 2^k):=by unfold bF;rw [if_neg b];omega
  rw [show bF (n / 2^k)+k-1=bF (n / 2^k)-1+k from by omega,Nat.pow_add];exact (Nat.le_div_iff_mul_le a).1 d
end Go.Big
namespace Go.Proofs.Tryz
open Go.Eng Go.Big
theorem fG (a k:Nat):((a:Nat):Int).fdiv (2^k)=((a / 2^k:Nat):Int):=by
 rw [Int.fdiv_eq_ediv_of_nonneg _ (by have:=Int.pow_pos (n:=2) (m:=k) (by omega);omega)];simp
def K1:ByteArray:=⟨#[0,1,2,2,3,3,3,3,4,4,4,4,4,4,4,4,5,5,5,5,5,5,5,5,5,5,5,5,5,5,5,5,6,6,6,6,6,6,6,6,6,6,6,6,6,6,6,6,6,6,6,6,6,6,6,6,6,6,6,6,6,6,6,6,7,7,7,7,7,7,7,7,7,7,7,7,7,7,7,7,7,7,7,7,7,7,7,7,7,7,7,7,7,7,7,7,7,7,7,7,7,7,7,7,7,7,7,7,7,7,7,7,7,7,7,7,7,7,7,7,7,7,7,7,7,7,7,7,8,8,8,8,8,8,8,8,8,8,8,8,8,8,8,8,8,8,8,8,8,8,8,8,8,8,8,8,8,8,8,8,8,8,8,8,8,8,8,8,8,8,8,8,8,8,8,8,8,8,8,8,8,8,8,8,8,8,8,8,8,8,8,8,8,8,8,8,8,8,8,8,8,8,8,8,8,8,8,8,8,8,8,8,8,8,8,8,8,8,8,8,8,8,8,8,8,8,8,8,8,8,8,8,8,8,8,8,8,8,8,8,8,8,8,8,8,8,8,8,8,8,8,8,8,8,8,8]⟩
set_option maxRecDepth 10000 in
theorem Kr {V:View}(x:Nat)(hx:x<4294967296) :
  Acts prog 230 #[.int .u32 (x:Int)] V fun r V'=>r=.int .i64 (bF x:Int):=by
 refine nZ _ V _ ⟨fun z _=>∃y b:Nat,z=((y:Int),(b:Int))/\y<65536/\b<=16/\bF x=bF y+b,⟨fun a=>⟨by omega,?_⟩,fun a=>?_⟩,?_⟩
 ·rw [fG];have a:2^16<=x:=by simp at a;omega
  exact ⟨_,⟨rfl,rfl⟩,x / 2^16,16,rfl,by omega,by omega,(tP a).symm⟩
 ·exact ⟨_,⟨rfl,rfl⟩,x,0,rfl,by simp at a;omega,by omega,rfl⟩
 ·rintro _ h i ⟨y,b,rfl,d,f,e⟩;rw [e];clear e;refine ⟨by trivial,fun z _=>∃y' b':Nat,z=((y':Int),(b':Int))/\y'<256/\b'<=24/\bF y+b=bF y'+b',⟨fun a=>⟨by omega,?_⟩,fun a=>?_⟩,?_⟩
  ·dsimp only at a ⊢;rw [fG];simp (disch:=omega) only [i64w];have a:2^8<=y:=by simp at a;omega
   exact ⟨(((y / 2^8:Nat):Int),(b:Int)+8),⟨rfl,rfl⟩,y / 2^8,b+8,by simp,by omega,by omega,by have:=tP a;omega⟩
  ·exact ⟨_,⟨rfl,rfl⟩,y,b,rfl,by simp at a;omega,by omega,rfl⟩
  ·rintro _ V2 j ⟨y,b,rfl,d,f,e⟩;rw [e];clear e;have hw:IntKind.u8.wrap (y:Int)=y:=IntWalk.u8_in _ (by omega);dsimp only;rw [hw];have c:(K1.size:Int)=256:=rfl;refine ⟨by trivial,⟨by omega,by show (y:Int)<(K1.size:Int);rw [c];omega⟩,fun k l=>?_⟩;show Value.int .i64 (i64.wrap (b+i64.wrap ((K1.data.toList.getD (y:Int).toNat 0).toNat:Int)))=_;congr 1;have key:∀y:Nat,y<256->(K1.data.toList.getD y 0).toNat=bF y:=by decide +kernel
   have g:bF y<=8:=iO.2 (by omega);have:=key y d;rw [Int.toNat_natCast,this];simp (disch:=omega) only [i64w];omega
theorem fO {V:View}(x:Nat)(hx:x<4294967296) :
  Acts prog 194 #[.int .u32 (x:Int)] V fun r V'=>r=.int .i64 (32-(bF x:Int)):=by
 refine hJ _ V _ fun b c=>(Kr x hx).mono ?_;rintro r V2 d rfl;have a:bF x<=32:=iO.2 (by omega);refine ⟨_,rfl,fun e f=>?_⟩;simp (disch:=omega) only [i64w]
theorem Fi (a:Nat)(ha:a<18446744073709551616):bh .and .u64 (a:Int) 4294967295=((a%4294967296:Nat):Int):=by
 rw [bh,qS]
 have b:(BitVec.ofInt IntKind.u64.bits ((a:Nat):Int) &&& BitVec.ofInt IntKind.u64.bits 4294967295).toNat=a%4294967296:=by
  show (BitVec.ofInt 64 ((a:Nat):Int) &&& BitVec.ofInt 64 ((4294967295:Nat):Int)).toNat=_;rw [BitVec.ofInt_natCast,BitVec.ofInt_natCast,BitVec.toNat_and,BitVec.toNat_ofNat,BitVec.toNat_ofNat,Nat.mod_eq_of_lt (by omega),Nat.mod_eq_of_lt (by omega)];have:=Nat.and_two_pow_sub_one_eq_mod a 32;exact this
 rw [b];omega
theorem Ct (a b c d:Nat)(ha:a<4294967296)(hb:b<4294967296)(hc:c<4294967296)(hd:d<4294967296) :
  a*c+(a*d+b*d / 4294967296) / 4294967296+((a*d+b*d / 4294967296)%4294967296+b*c) / 4294967296=(a*4294967296+b)*(c*4294967296+d) / 18446744073709551616 /\
  a*c<=18446744065119617025/\a*d<=18446744065119617025/\b*c<=18446744065119617025/\b*d<=18446744065119617025:=by
 have f:a*c<=4294967295*4294967295:=Nat.mul_le_mul (by omega) (by omega);have g:a*d<=4294967295*4294967295:=Nat.mul_le_mul (by omega) (by omega);have h:b*c<=4294967295*4294967295:=Nat.mul_le_mul (by omega) (by omega);have i:b*d<=4294967295*4294967295:=Nat.mul_le_mul (by omega) (by omega);have e:(a*4294967296+b)*(c*4294967296+d)=(a*c)*18446744073709551616+(a*d)*4294967296+(b*c)*4294967296+b*d:=by grind
 rw [e];generalize a*c=p at *;generalize a*d=q at *;generalize b*c=r at *;generalize b*d=s at *;refine ⟨by omega,by omega,by omega,by omega,by omega⟩
theorem Ks {V:View}(x y:Nat)(hx:x<18446744073709551616)(hy:y<18446744073709551616) :
  Acts prog 241 #[.int .u64 (x:Int),.int .u64 (y:Int)] V fun r V'=>r=.tuple #[.int .u64 ((x*y / 18446744073709551616:Nat):Int),.int .u64 ((x*y%18446744073709551616:Nat):Int)]:=by
 refine n_ _ _ V _ ⟨by omega,by omega,by omega,by omega,by omega,fun v w=>?_⟩;have p:=Ct (x / 4294967296) (x%4294967296) (y / 4294967296) (y%4294967296) (by omega) (by omega) (by omega) (by omega);rw [Nat.div_add_mod' x 4294967296,Nat.div_add_mod' y 4294967296] at p;obtain ⟨f,z,A,B,C⟩:=p;have e:u64.wrap ((x:Int)*y)=((x*y%18446744073709551616:Nat):Int):=by rw [qS];simp
 rw [e,Fi x hx,Fi y hy,kU,kU];rw [←f];have g:((x:Int) / 4294967296)*((y:Int) / 4294967296)=((x / 4294967296*(y / 4294967296):Nat):Int):=by simp
 have h:((x:Int) / 4294967296)*((y%4294967296:Nat):Int)=((x / 4294967296*(y%4294967296):Nat):Int):=by simp
 have i:((x%4294967296:Nat):Int)*((y:Int) / 4294967296)=((x%4294967296*(y / 4294967296):Nat):Int):=by simp
 have j:((x%4294967296:Nat):Int)*((y%4294967296:Nat):Int)=((x%4294967296*(y%4294967296):Nat):Int):=by simp
 rw [g,h,i,j];generalize x / 4294967296*(y / 4294967296)=a at *;generalize x / 4294967296*(y%4294967296)=b at *;generalize x%4294967296*(y / 4294967296)=c at *;generalize x%4294967296*(y%4294967296)=d at *;simp only [kU];have k:u64.wrap (d:Int)=d:=aG (by omega);have l:u64.wrap (b:Int)=b:=aG (by omega);have m:u64.wrap (c:Int)=c:=aG (by omega);have n:u64.wrap (a:Int)=a:=aG (by omega);rw [k,l,m,n];have o:u64.wrap ((b:Int)+d / 4294967296)=((b+d / 4294967296:Nat):Int):=by rw [aG (by omega)];omega
 rw [o,Fi _ (by omega)];have q:u64.wrap (((b+d / 4294967296)%4294967296:Nat)+(c:Int))=(((b+d / 4294967296)%4294967296+c:Nat):Int):=by rw [aG (by omega)];omega
 rw [q]
 have s:x*y / 18446744073709551616<18446744073709551616:=by
  have:x*y<18446744073709551616*18446744073709551616:=Nat.mul_lt_mul'' hx hy;omega
 have t:u64.wrap ((a:Int)+((b+d / 4294967296:Nat):Int) / 4294967296)=((a+(b+d / 4294967296) / 4294967296:Nat):Int):=by
  rw [aG (by omega)];omega
 rw [t]
 have u:u64.wrap (((a+(b+d / 4294967296) / 4294967296:Nat):Int)+(((b+d / 4294967296)%4294967296+c:Nat):Int) / 4294967296)=((a+(b+d / 4294967296) / 4294967296+((b+d / 4294967296)%4294967296+c) / 4294967296:Nat):Int):=by
  rw [aG (by omega)];omega
 rw [u]
theorem Kp {V:View}(x y c:Nat)(hx:x<4294967296)(hy:y<4294967296)(hc:c<4294967296) :
  Acts prog 192 #[.int .u32 (x:Int),.int .u32 (y:Int),.int .u32 (c:Int)] V fun r V'=>r=.tuple #[.int .u32 (((x+y+c)%4294967296:Nat):Int),.int .u32 (((x+y+c) / 4294967296:Nat):Int)]:=by
 refine nX _ _ _ V _ ⟨by omega,fun d e=>?_⟩;simp (disch:=omega) only [aG,gZ,kU];have a:((x:Int)+y+c)%4294967296=(((x+y+c)%4294967296:Nat):Int):=by omega
 have b:((x:Int)+y+c) / 4294967296%4294967296=(((x+y+c) / 4294967296:Nat):Int):=by omega
 rw [a,b]
theorem LV (a b:Nat)(ha:a<4294967296)(hb:b<4294967296):bh .and .u32 (a:Int) (b:Int)=((a &&& b:Nat):Int):=by
 have c:(BitVec.ofInt IntKind.u32.bits ((a:Nat):Int) &&& BitVec.ofInt IntKind.u32.bits ((b:Nat):Int)).toNat=a &&& b:=by
  show (BitVec.ofInt 32 ((a:Nat):Int) &&& BitVec.ofInt 32 ((b:Nat):Int)).toNat=_;rw [BitVec.ofInt_natCast,BitVec.ofInt_natCast,BitVec.toNat_and,BitVec.toNat_ofNat,BitVec.toNat_ofNat,Nat.mod_eq_of_lt (by omega),Nat.mod_eq_of_lt (by omega)]
 have d:a &&& b<2^32:=Nat.and_lt_two_pow a (by omega);rw [bh,gZ,c];omega
theorem T4 (a b:Nat)(ha:a<4294967296)(hb:b<4294967296):bh .or .u32 (a:Int) (b:Int)=((a ||| b:Nat):Int):=by
 have c:(BitVec.ofInt IntKind.u32.bits ((a:Nat):Int) ||| BitVec.ofInt IntKind.u32.bits ((b:Nat):Int)).toNat=a ||| b:=by
  show (BitVec.ofInt 32 ((a:Nat):Int) ||| BitVec.ofInt 32 ((b:Nat):Int)).toNat=_;rw [BitVec.ofInt_natCast,BitVec.ofInt_natCast,BitVec.toNat_or,BitVec.toNat_ofNat,BitVec.toNat_ofNat,Nat.mod_eq_of_lt (by omega),Nat.mod_eq_of_lt (by omega)]
 have d:a ||| b<2^32:=Nat.or_lt_two_pow (by omega) (by omega);rw [bh,gZ,c];omega
theorem J1 (a b:Nat)(ha:a<4294967296)(hb:b<4294967296):bh .xor .u32 (a:Int) (b:Int)=((a ^^^ b:Nat):Int):=by
 have c:(BitVec.ofInt IntKind.u32.bits ((a:Nat):Int) ^^^ BitVec.ofInt IntKind.u32.bits ((b:Nat):Int)).toNat=a ^^^ b:=by
  show (BitVec.ofInt 32 ((a:Nat):Int) ^^^ BitVec.ofInt 32 ((b:Nat):Int)).toNat=_;rw [BitVec.ofInt_natCast,BitVec.ofInt_natCast,BitVec.toNat_xor,BitVec.toNat_ofNat,BitVec.toNat_ofNat,Nat.mod_eq_of_lt (by omega),Nat.mod_eq_of_lt (by omega)]
 have d:a ^^^ b<2^32:=Nat.xor_lt_two_pow (by omega) (by omega);rw [bh,gZ,c];omega
theorem QX {n:Nat}(h:n<4294967296):n / 2147483648=if n.testBit 31 then 1 else 0:=by
 rw [Nat.testBit_eq_decide_div_mod_eq];have:(2:Nat)^31=2147483648:=by decide
 rw [this];split
 ·rename_i a;simp at a;omega
 ·rename_i a;simp at a;omega
theorem Fl {n:Nat}(h:n<4294967296):n.testBit 31=decide (2147483648<=n):=by
 rw [Nat.testBit_eq_decide_div_mod_eq];have:(2:Nat)^31=2147483648:=by decide
 rw [this];congr 1;simp;omega
theorem HM (x y c:Nat)(hx:x<4294967296)(hy:y<4294967296)(hc:c<=1){d:Nat}(hd:(d:Int)=((x:Int)-y-c)%4294967296) :
  (((4294967295 ^^^ x) &&& y) ||| ((4294967295 ^^^ (x ^^^ y)) &&& d)) / 2147483648=if x<y+c then 1 else 0:=by
 have k:(4294967295 ^^^ x)<2^32:=Nat.xor_lt_two_pow (by omega) (by omega);have b:x ^^^ y<2^32:=Nat.xor_lt_two_pow (by omega) (by omega);have l:(4294967295 ^^^ (x ^^^ y))<2^32:=Nat.xor_lt_two_pow (by omega) b;have e:(4294967295 ^^^ x) &&& y<2^32:=Nat.and_lt_two_pow _ (by omega);have f:(4294967295 ^^^ (x ^^^ y)) &&& d<2^32:=Nat.and_lt_two_pow _ (by omega);have g:=Nat.or_lt_two_pow e f;rw [QX g];have a:d<4294967296:=by omega
 rw [Nat.testBit_or,Nat.testBit_and,Nat.testBit_and,Nat.testBit_xor,Nat.testBit_xor,Nat.testBit_xor,Fl hx,Fl hy,Fl a,Fl (n:=4294967295) (by omega)];by_cases h:2147483648<=x<;>by_cases i:2147483648<=y<;>by_cases j:2147483648<=d<;>simp [h,i,j]<;>omega
theorem Kv {V:View}(x y c:Nat)(hx:x<4294967296)(hy:y<4294967296)(hc:c<=1) :
  Acts prog 193 #[.int .u32 (x:Int),.int .u32 (y:Int),.int .u32 (c:Int)] V fun r V'=>∃d b:Nat,r=.tuple #[.int .u32 (d:Int),.int .u32 (b:Int)]/\d<4294967296/\b<=1/\d+(y+c)=x+4294967296*b:=by
 refine oa _ _ _ V _ ⟨by omega,fun n o=>?_⟩;obtain ⟨d,g⟩:∃d:Nat,(d:Int)=((x:Int)-y-c)%4294967296:=⟨(((x:Int)-y-c)%4294967296).toNat,by omega⟩;have a:d<4294967296:=by omega
 have h:u32.wrap (u32.wrap ((x:Int)-y)-c)=(d:Int):=by rw [gZ,gZ];omega
 have i:IntKind.u32.max=((4294967295:Nat):Int):=rfl;have j:(4294967295 ^^^ x)<2^32:=Nat.xor_lt_two_pow (by omega) (by omega);have f:x ^^^ y<2^32:=Nat.xor_lt_two_pow (by omega) (by omega);have k:(4294967295 ^^^ (x ^^^ y))<2^32:=Nat.xor_lt_two_pow (by omega) f;have l:(4294967295 ^^^ x) &&& y<2^32:=Nat.and_lt_two_pow _ (by omega);have m:(4294967295 ^^^ (x ^^^ y)) &&& d<2^32:=Nat.and_lt_two_pow _ (by omega);rw [h,i,J1 _ _ (by omega) hx,LV _ _ j hy,J1 _ _ hx hy,J1 _ _ (by omega) f,LV _ _ k a,T4 _ _ l m,fG];have e:(2:Nat)^31=2147483648:=by decide
 rw [e,HM x y c hx hy hc g];refine ⟨d,_,rfl,a,?_,?_⟩
 ·split<;>omega
 ·split<;>omega
theorem Kq {V:View}(hi lo y:Nat)(hh:hi<y)(hl:lo<4294967296)(hy:y<4294967296) :
  Acts prog 154 #[.int .u32 (hi:Int),.int .u32 (lo:Int),.int .u32 (y:Int)] V fun r V'=>r=.tuple #[.int .u32 (((hi*4294967296+lo) / y:Nat):Int),.int .u32 (((hi*4294967296+lo)%y:Nat):Int)]:=by
 have key:∀b:View,Value.tuple #[.int .u32 (u32.wrap (u64.wrap ((bh .or .u64 (u64.wrap ((u64.wrap (hi:Int))*2^32)) (u64.wrap (lo:Int))).tdiv (u64.wrap (y:Int))))),.int .u32 (u32.wrap ((bh .or .u64 (u64.wrap ((u64.wrap (hi:Int))*2^32)) (u64.wrap (lo:Int))).tmod (u64.wrap (y:Int))))]=.tuple #[.int .u32 (((hi*4294967296+lo) / y:Nat):Int),.int .u32 (((hi*4294967296+lo)%y:Nat):Int)]:=by
  intro _;have c:((2:Int)^32)=4294967296:=by decide
  have d:u64.wrap (hi:Int)=hi:=aG (by omega);have e:u64.wrap (lo:Int)=lo:=aG (by omega);have a:u64.wrap (y:Int)=y:=aG (by omega);have f:u64.wrap ((hi:Int)*4294967296)=(hi:Int)*4294967296:=aG (by omega);rw [d,c,f,e,a,CA _ _ (by omega) hl];have g:(hi:Int)*4294967296+lo=((hi*4294967296+lo:Nat):Int):=by omega
  rw [g,←Int.ofNat_tdiv,←Int.ofNat_tmod]
  have m:(hi*4294967296+lo) / y<4294967296:=by
   rw [Nat.div_lt_iff_lt_mul (by omega)];have:(hi+1)*4294967296<=y*4294967296:=Nat.mul_le_mul_right _ hh;omega
  have n:(hi*4294967296+lo)%y<y:=Nat.mod_lt _ (by omega);generalize (hi*4294967296+lo) / y=q at *;generalize (hi*4294967296+lo)%y=r at *;have i:u64.wrap (q:Int)=q:=aG (by omega);have j:u32.wrap (q:Int)=q:=pM (by omega);have k:u32.wrap (r:Int)=r:=pM (by omega);rw [i,j,k]
 have a:u64.wrap (y:Int)=y:=aG (by omega);refine nY _ _ _ V _ ⟨fun _=>⟨fun h=>?_,fun _=>⟨by omega,by rw [a];omega,by rw [a];omega,fun b l=>key b⟩⟩,fun _=>⟨by omega,by rw [a];omega,by rw [a];omega,fun b l=>key b⟩⟩;simp at h;omega
theorem aO {V:View}{p:OA}{n c:Nat}{ds:List Nat}(h:RD V p n c ds)(hm:ds.length<=4611686018427387904) :
  Acts prog 221 #[.slice p n c] V fun r V'=>∃k,r=.slice p k c/\RD V' p k c (bT ds):=by
 refine Di p n c V _ ?_;refine ⟨fun z V'=>z.1=p/\z.2.2=c/\z.2.1<=ds.length/\bT (ds.take z.2.1)=bT ds/\RD V' p z.2.1 c (ds.take z.2.1),fun z=>z.2.1,⟨(p,n,c),⟨rfl,rfl,rfl⟩,rfl,rfl,?_⟩,?_⟩
 ·have:=h.len;subst this;simp;exact h
 ·rintro ⟨q,k,i⟩ l m ⟨rfl,rfl,j,e,d⟩;dsimp only at j e d ⊢;refine ⟨rfl,fun a=>?_,fun a=>?_⟩
  ·have a:0<k:=by simpa using a
   simp (disch:=omega) only [i64w];have o:(ds.take k).length=k:=by simp;omega
   have f:ds.take k=ds.take (k-1)++[ds[k-1]]:=by rw [←List.take_succ_eq_append_getElem (by omega),Nat.sub_add_cancel a]
   refine d.rd (k-1) (by omega) (by omega) ⟨fun b=>?_,fun b=>?_⟩
   ·have b:ds[k-1]=0:=by simpa using b
    refine ⟨⟨by omega,by have:=d.cap;omega⟩,(q,k-1,i),by dsimp only;omega,⟨rfl,by dsimp only;omega,rfl⟩,rfl,rfl,by dsimp only;omega,?_,?_⟩
    ·dsimp only;rw [←e,f,b,gQ]
    ·have:=d.take (k:=k-1) (by omega);dsimp only
     rwa [List.take_take,Nat.min_eq_left (by omega)] at this
   ·have b:ds[k-1]≠0:=by simpa using b
    refine fun V2 g=>⟨k,rfl,?_⟩;rw [←e,f,nS _ _ b,←f];exact d.le g
  ·have a:k=0:=by simpa using a
   subst a;refine fun V2 g=>⟨0,rfl,?_⟩;rw [←e];exact d.le g
theorem lC {V:View}{p:OA}{n c:Nat}{ds:List Nat}(h:RD V p n c ds)(hm:ds.length<=1099511627776) :
  Acts prog 223 #[.slice p n c] V fun r V'=>∃q k c',r=.slice q k c'/\RD V' q k c' ds:=by
 have f:=h.len;refine sZ p n c V _ ⟨fun a l m=>⟨_,_,_,rfl,?_⟩,fun a=>⟨ay ds,h.sl,by simp [f],by omega,by omega,by simp,by simp [f],?_,?_⟩⟩
 ·have a:p=none:=by simpa using a
  subst a
  have:ds=[]:=by
   rcases Nat.eq_zero_or_pos ds.length with e|e
   ·exact List.length_eq_zero_iff.1 e
   ·obtain ⟨o,e,-⟩:=h.sl 0 _ (fK e);cases e
  subst this;exact RD.nil
 ·intro v hv;simp only [ay,List.mem_map] at hv;obtain ⟨d,-,rfl⟩:=hv;rfl
 ·intro s J sp c' g t l m b j;refine ⟨_,_,_,rfl,?_⟩;simp only [Nat.zero_add,Nat.zero_mul,List.take_zero,List.nil_append] at j g ⊢;exact ⟨f,g,fun i v hv=>⟨_,rfl,by rw [add_zero'];exact blk_at j (by rw [List.getElem?_append_left (by rcases Nat.lt_or_ge i (ay ds).length with e|e;exact e;rw [List.getElem?_eq_none e] at hv;cases hv)];exact hv)⟩,h.fh,fun e=>nomatch e⟩
abbrev RN (V:View)(p:OA)(n c:Nat)(x:Nat):Prop:=RD V p n c (af x)
theorem im {V:View}{p:OA}{n c:Nat}{ds:List Nat}(h:RD V p n c ds)(hm:ds.length<=1099511627776) :
  Acts prog 187 #[.slice p n c] V fun r V'=>∃q k c',r=.slice q k c'/\RN V' q k c' (val ds):=by
 refine De p n c V _ fun g a=>(aO (h.le a) (by omega)).mono ?_;rintro r V2 i ⟨k,rfl,b⟩;refine ⟨_,_,_,rfl,fun j d=>(lC (b.le d) (by have:=jX ds;omega)).mono ?_⟩;rintro r l m ⟨q,o,c',rfl,e⟩;refine ⟨_,_,_,rfl,fun s f=>⟨_,_,_,rfl,?_⟩⟩;unfold RN;rw [←aK h.fh];exact e.le f
theorem zM {V:View}{p:OA}{n c:Nat}{ds:List Nat}(h:RD V p n c ds)(hm:ds.length<=1099511627776) :
  Acts prog 203 #[.slice p n c] V fun r V'=>r=.bool (decide (af (val ds)=ds)):=by
 have d:=h.len;refine xE p n c V _ ⟨fun a e f=>?_,fun a=>?_⟩
 ·have:ds=[]:=List.length_eq_zero_iff.1 (by simp at a;omega);subst this;rfl
 ·have a:0<n:=by simp at a;omega
  simp (disch:=omega) only [i64w];refine h.rd (n-1) (by omega) (by omega) fun e f=>?_;congr 1;rw [Bool.eq_iff_iff];simp only [bne_iff_ne,ne_eq,decide_eq_true_eq];subst d;constructor
  ·intro b;exact uj h.fh (Cv fun _=>by simpa using b)
  ·intro he b;have:rZ ds:=by rw [←he];exact iC _
   exact this.last (by omega) (by simpa using b)
theorem dz {V:View}(u:Int)(h0:0<=u)(h1:u<18446744073709551616) :
  Acts prog 220 #[.int .u64 u] V fun r V'=>∃q k c',r=.slice q k c'/\RN V' q k c' u.toNat:=by
 obtain ⟨u,rfl⟩:=Int.eq_ofNat_of_zero_le h0;refine sP _ V _ ⟨by omega,fun e h f a=>?_⟩;rw [kU,gZ,pM (by omega)] at a
 have a:e.bg f (.cells (ay [u%4294967296,u / 4294967296]).toArray 225 (0,0)):=by
  simpa [ay] using a
 have d:bM [u%4294967296,u / 4294967296]:=by simp [bM];omega
 refine (aO (RD.bg a d (n:=2) (c:=2) rfl (Nat.le_refl _)) (by simp)).mono ?_;rintro r V2 i ⟨k,rfl,b⟩;refine ⟨_,_,_,rfl,fun _ j g=>⟨_,_,_,rfl,?_⟩⟩;rw [aK d] at b;have:val [u%4294967296,u / 4294967296]=(u:Int).toNat:=by simp;omega
 rw [this] at b;exact b.le g
theorem yo {V:View}{p q:OA}{n c m e:Nat}{xa xb:List Nat}(ha:RD V p n c xa)(hb:RD V q m e xb)(hm:xa.length<=1099511627776)(hn:xb.length<=1099511627776) :
  Acts prog 222 #[.slice p n c,.slice q m e] V fun r V'=>r=.int .i64 (jI (val xa) (val xb)):=by
 have la:=jX xa;have lb:=jX xb;refine EY p n c q m e V _ fun J w=>(aO (ha.le w) (by omega)).mono ?_;rintro r V2 D ⟨n,rfl,g⟩;refine ⟨_,_,_,rfl,fun K A=>(aO (hb.le (w.trans (D.trans A))) (by omega)).mono ?_⟩;rintro r L E ⟨m,rfl,j⟩;refine ⟨_,_,_,rfl,?_⟩
 replace g:=g.le (A.trans E)
 rw [aK ha.fh] at g la;rw [aK hb.fh] at j lb;generalize val xa=x at *;generalize val xb=y at *;have F:=g.len;have G:=j.len;refine ⟨fun h=>⟨fun d B C=>?_,fun d B C=>?_⟩,fun h=>?_⟩
 ·have:=jP (a:=x) (b:=y) (by simp at d;omega);rw [jI,if_pos this]
 ·have:=jP (a:=y) (b:=x) (by simp at h d;omega);rw [jI,if_neg (by omega),if_pos this]
 ·have h:n=m:=by simp at h;omega
  subst h;simp (disch:=omega) only [i64w];refine ⟨fun z V'=>-1<=z/\z<n/\(af x).drop (z+1).toNat=(af y).drop (z+1).toNat,fun z=>(z+1).toNat,⟨_,by (try dsimp only);and_intros<;>trivial,by (try dsimp only);omega,by (try dsimp only);omega,?_⟩,?_⟩
  ·(try dsimp only)
   rw [List.drop_of_length_le (by omega),List.drop_of_length_le (by omega)]
  ·rintro i M k ⟨o,s,t⟩;dsimp only at o s t ⊢;refine ⟨by trivial,fun d=>?_,fun d B C=>?_⟩
   ·have d:0<=i:=by simpa using d
    obtain ⟨i,rfl⟩:=Int.eq_ofNat_of_zero_le d;simp (disch:=omega) only [i64w];have f:(af x).drop (i+1)=(af y).drop (i+1):=t;refine (g.le k).rd i rfl (by omega) ((j.le k).rd i rfl (by omega) ⟨fun u H I=>?_,fun u=>?_⟩)
    ·have:=i_ (ax x) (by omega) (by omega) f (by simpa using u);rw [ab,ab] at this;rw [jI,if_pos this]
    ·refine (g.le k).rd i rfl (by omega) ((j.le k).rd i rfl (by omega) ⟨fun v H I=>?_,fun v=>?_⟩)
     ·have:=i_ (ax y) (by omega) (by omega) f.symm (by simpa using v);rw [ab,ab] at this;rw [jI,if_neg (by omega),if_pos this]
     ·refine ⟨_,?_,by (try dsimp only);and_intros<;>trivial,?_,?_,?_⟩
      ·(try dsimp only);omega
      ·(try dsimp only);omega
      ·(try dsimp only);omega
      ·(try dsimp only)
       have:((i:Int)-1+1).toNat=i:=by omega
       rw [this,List.drop_eq_getElem_cons (by omega),List.drop_eq_getElem_cons (l:=af y) (by omega),f];congr 1;simp at u v;omega
   ·have d:i=-1:=by simp at d;omega
    subst d;have:af x=af y:=by simpa using t
    have:=ui this;subst this;simp [jI]
theorem tG {E A B c d x y W:Nat}(h:E+W*c=A+B)(hd:d=c+x+y):E+W*(d%4294967296)+W*4294967296*(d / 4294967296)=A+W*x+(B+W*y):=by
 have a:W*(d%4294967296)+W*4294967296*(d / 4294967296)=W*d:=by
  rw [Nat.mul_assoc,←Nat.mul_add,Nat.mod_add_div]
 rw [Nat.add_assoc,a,hd,Nat.mul_add,Nat.mul_add];omega
theorem Gq {V:View}{p q:OA}{n c m e:Nat}{xa xb:List Nat}(ha:RD V p n c xa)(hb:RD V q m e xb)(hm:xa.length<=1099511627776)(hn:xb.length<=1099511627776) :
  Acts prog 243 #[.slice p n c,.slice q m e] V fun r V'=>∃p' n' c',r=.slice p' n' c'/\RN V' p' n' c' (val xa+val xb):=by
 have A:=ha.len;have B:=hb.len;refine EX p n c q m e V _ ⟨fun z V'=>∃xs b,RD V' z.1 z.2.1 z.2.2.1 xs/\RD V' z.2.2.2.1 z.2.2.2.2.1 z.2.2.2.2.2 b/\b.length<=xs.length/\xs.length<=1099511627776/\val xs+val b=val xa+val xb,⟨fun C=>?_,fun C=>?_⟩,?_⟩
 ·exact ⟨(_,_,_,_,_,_),by (try dsimp only);and_intros<;>trivial,xb,xa,hb,ha,by simp at C;omega,hn,by omega⟩
 ·exact ⟨(_,_,_,_,_,_),by (try dsimp only);and_intros<;>trivial,xa,xb,ha,hb,by simp at C;omega,hm,rfl⟩
 ·rintro ⟨p,n,c,q,m,e⟩ N O ⟨xs,b,w,x,P,hm,hv⟩;dsimp only at w x ⊢;rw [←hv];clear hv ha hb A B;have K:=w.len;have Q:=x.len;simp (disch:=omega) only [i64w,cw];have D:((n:Int)+1).toNat=n+1:=by omega
  rw [D]
  refine ⟨by trivial,by omega,by omega,by omega,fun z V'=>0<=z.1/\z.1<=1/\0<=z.2.1/\z.2.1<=n/\∃es:List Nat,z.2.2=ay es/\es.length=n+1/\bM es /\
   val (es.take z.2.1.toNat)+4294967296^z.2.1.toNat*z.1.toNat=val (xs.take z.2.1.toNat)+val (b.take z.2.1.toNat),fun z=>n-z.2.1.toNat,⟨(0,0,ay (List.replicate (n+1) 0)),by (try dsimp only);and_intros<;>trivial,by (try dsimp only);omega,by (try dsimp only);omega,by (try dsimp only);omega,by (try dsimp only);omega,_,rfl,by simp,bM.rep _,by simp⟩,?_⟩
  rintro ⟨f,i,R⟩ V2 J ⟨l,E,o,F,es,rfl,G,s,hv⟩;dsimp only at l E o F hv ⊢;obtain ⟨i,rfl⟩:=Int.eq_ofNat_of_zero_le o;obtain ⟨f,rfl⟩:=Int.eq_ofNat_of_zero_le l;simp only [Int.toNat_natCast] at hv;refine ⟨by trivial,fun j=>?_,fun j=>?_⟩
  ·have j:i<n:=by simpa using j
   refine (w.le J).rd i rfl (by omega) ?_;have S:=w.fh.get (i:=i) (by omega)
   have next:∀d:Nat,d<8589934592->val (es.take i)+4294967296^i*(d%4294967296)+4294967296^i*4294967296*(d / 4294967296)=val (xs.take (i+1))+val (b.take (i+1)) ->
     ∃a:List Nat,(ay es).set i (.int .u32 ((d%4294967296:Nat):Int))=ay a/\a.length=n+1/\bM a /\
     val (a.take (i+1))+4294967296^(i+1)*(d / 4294967296)=val (xs.take (i+1))+val (b.take (i+1)):=by
    intro d T he;refine ⟨es.set i (d%4294967296),bo _ _ _,by simpa using G,s.set _ _ (by omega),?_⟩;rw [aE _ _ _ (by omega),Nat.pow_succ];exact he
   refine ⟨fun g=>?_,fun g=>?_⟩
   ·have g:i<m:=by simpa using g
    refine (x.le J).rd i rfl (by omega) ?_;have L:=x.fh.get (i:=i) (by omega);simp (disch:=omega) only [aG,i64w,gZ,kU];refine ⟨⟨by omega,by omega⟩,by simp;omega,by omega,(_,_,_),?_,by (try dsimp only);and_intros<;>trivial,?_⟩
    ·(try dsimp only);omega
    ·(try dsimp only)
     have h:((i:Int)+1).toNat=i+1:=by omega
     obtain ⟨a,t,u,H,I⟩:=next (f+xs[i]+b[i]) (by omega) (by rw [aq _ _ (by omega),aq _ _ (by omega)];exact tG hv rfl);refine ⟨by omega,by omega,by omega,by omega,a,?_,u,H,?_⟩
     ·rw [←t];simp
     ·rw [h,←I];congr 2
   ·have g:m<=i:=by simpa using g
    simp (disch:=omega) only [aG,i64w,gZ,kU];refine ⟨⟨by omega,by omega⟩,by simp;omega,by omega,(_,_,_),?_,by (try dsimp only);and_intros<;>trivial,?_⟩
    ·(try dsimp only);omega
    ·(try dsimp only)
     have h:((i:Int)+1).toNat=i+1:=by omega
     obtain ⟨a,t,u,H,I⟩:=next (f+xs[i]) (by omega) (by
      rw [aq _ _ (by omega),aj (ds:=b) (i:=i+1) (by omega)];have:=tG (y:=0) hv (d:=f+xs[i]) rfl
      rwa [aj (ds:=b) (by omega),Nat.mul_zero,Nat.add_zero] at this)
     refine ⟨by omega,by omega,by omega,by omega,a,?_,u,H,?_⟩
     ·rw [←t];simp
     ·rw [h,←I];congr 2
  ·have j:i=n:=by simp at j;omega
   subst j;simp (disch:=omega) only [pM];refine ⟨⟨by omega,by omega⟩,by simp;omega,fun U W X hb=>?_⟩;have t:(ay es).set (0+((i:Int).toNat)*1) (.int .u32 (f:Int))=ay (es.set i f):=by rw [←bo];simp
   rw [t] at hb;have v:=s.set i f (by omega);refine (aO (RD.bg hb v (n:=i+1) (c:=i+1) (by simp;omega) (Nat.le_refl _)) (by simp;omega)).mono ?_;rintro r Y Z ⟨k,rfl,g⟩;refine ⟨_,_,_,rfl,fun _ V5 M=>⟨_,_,_,rfl,?_⟩⟩;rw [aK v] at g
   have u:val (es.set i f)=val xs+val b:=by
    have:=aE es i f (by omega);rw [aj (by simp;omega)] at this;rw [this,hv,aj (by omega),aj (by omega)]
   rw [u] at g;exact g.le M
theorem JI {E A B c x y W:Nat}(h:E+B=A+W*c){v:Int}(hc:c<=1)(hx:x<4294967296)(hy:y<4294967296)(hv:v=((x:Int)-(c+y))%18446744073709551616) :
  0<=v/\v / 9223372036854775808<=1/\0<=v / 9223372036854775808/\E+W*(v%4294967296).toNat+(B+W*y)=A+W*x+W*4294967296*(v / 9223372036854775808).toNat:=by
 rcases Nat.lt_or_ge x (c+y) with d|d
 ·have e:v=18446744073709551616+(x:Int)-(c+y):=by omega
  have a:(v / 9223372036854775808).toNat=1:=by omega
  have b:(v%4294967296).toNat+(c+y)=x+4294967296:=by omega
  refine ⟨by omega,by omega,by omega,?_⟩;rw [a,Nat.mul_one];have:=congrArg (W*·) b;simp only [Nat.mul_add] at this;omega
 ·have e:v=(x:Int)-(c+y):=by omega
  have a:(v / 9223372036854775808).toNat=0:=by omega
  have b:(v%4294967296).toNat+(c+y)=x:=by omega
  refine ⟨by omega,by omega,by omega,?_⟩;rw [a,Nat.mul_zero,Nat.add_zero];have:=congrArg (W*·) b;simp only [Nat.mul_add] at this;omega
theorem DT {V:View}{p q:OA}{n c m e:Nat}{xs ys:List Nat}(hx:RD V p n c xs)(hy:RD V q m e ys)(hm:xs.length<=1099511627776)(hl:ys.length<=xs.length)(hle:val ys<=val xs) :
  Acts prog 247 #[.slice p n c,.slice q m e] V fun r V'=>∃p' n' c',r=.slice p' n' c'/\RN V' p' n' c' (val xs-val ys):=by
 have C:=hx.len;have N:=hy.len
 refine Dg p n c q m e V _ ⟨by omega,by omega,by omega,fun z V'=>0<=z.1/\z.1<=1/\0<=z.2.1/\z.2.1<=n/\∃es:List Nat,z.2.2=ay es/\es.length=n/\bM es /\
   val (es.take z.2.1.toNat)+val (ys.take z.2.1.toNat)=val (xs.take z.2.1.toNat)+4294967296^z.2.1.toNat*z.1.toNat,fun z=>n-z.2.1.toNat,
   ⟨(0,0,List.replicate n (.int .u32 0)),by (try dsimp only);and_intros<;>trivial,by (try dsimp only);omega,by (try dsimp only);omega,by (try dsimp only);omega,by (try dsimp only);omega,List.replicate n 0,cw n,by simp,bM.rep _,by simp⟩,?_⟩
 rintro ⟨j,i,O⟩ V2 A ⟨l,s,o,u,es,rfl,d,a,hv⟩;dsimp only at l s o u hv ⊢;obtain ⟨i,rfl⟩:=Int.eq_ofNat_of_zero_le o;obtain ⟨j,rfl⟩:=Int.eq_ofNat_of_zero_le l;simp only [Int.toNat_natCast] at hv;refine ⟨by trivial,fun f=>?_,fun f=>?_⟩
 ·have f:i<n:=by simpa using f
  refine (hx.le A).rd i rfl (by omega) ?_;have D:=hx.fh.get (i:=i) (by omega);refine ⟨fun z V'=>∃y:Nat,z=j+y/\y<4294967296/\val (ys.take (i+1))=val (ys.take i)+4294967296^i*y,⟨fun b=>?_,fun b=>?_⟩,?_⟩
  ·have b:i<m:=by simpa using b
   refine (hy.le A).rd i rfl (by omega) ?_;have g:=hy.fh.get (i:=i) (by omega);simp (disch:=omega) only [aG];exact ⟨_,by (try dsimp only);and_intros<;>trivial,ys[i],rfl,g,aq _ _ (by omega)⟩
  ·have b:m<=i:=by simpa using b
   exact ⟨_,by (try dsimp only);and_intros<;>trivial,0,by simp,by omega,by rw [aj (by omega),aj (by omega)];simp⟩
  ·rintro t E F ⟨y,rfl,g,w⟩;refine ⟨by trivial,⟨by omega,by simpa using f⟩,by simp;omega,by omega,?_⟩;simp (disch:=omega) only [aG,i64w,qS,gZ,JE];obtain ⟨v,B⟩:∃v:Int,v=((xs[i]:Int)-((j:Int)+(y:Int)))%18446744073709551616:=⟨_,rfl⟩;obtain ⟨P,G,H,I⟩:=JI hv (by omega) D g B;rw [←B];refine ⟨(_,_,_),?_,by (try dsimp only);and_intros<;>trivial,?_⟩
   ·(try dsimp only);omega
   ·(try dsimp only)
    have x:((i:Int)+1).toNat=i+1:=by omega
    refine ⟨H,G,by omega,by omega,es.set i (v%4294967296).toNat,?_,by simpa using d,a.set _ _ (by omega),?_⟩
    ·rw [←bo];congr 2
     ·simp
     ·omega
    ·rw [x,aE _ _ _ (by omega),w,I,aq _ _ (by omega),Nat.pow_succ]
 ·have f:i=n:=by simp at f;omega
  subst f;intro E F Q J;refine (aO (RD.bg J a (n:=i) (c:=i) d.symm (Nat.le_refl _)) (by omega)).mono ?_;rintro r R S ⟨k,rfl,b⟩;refine ⟨_,_,_,rfl,fun _ T K=>⟨_,_,_,rfl,?_⟩⟩;rw [aK a] at b;rw [aj (by omega),aj (by omega),aj (by omega)] at hv;have L:=fM a;rw [d] at L
  have M:j=0:=by
   rcases Nat.eq_zero_or_pos j with h|h
   ·exact h
   ·have:4294967296^i*1<=4294967296^i*j:=Nat.mul_le_mul_left _ h;omega
  subst M;rw [show val es=val xs-val ys from by omega] at b;exact b.le K
theorem fF {a b:Nat}:jI a b<0↔a<b:=by
 unfold jI;split
 ·simp;omega
 ·split<;>simp<;>omega
theorem jJ {a b:Nat}:jI a b=0↔a=b:=by
 unfold jI;split
 ·simp;omega
 ·split
  ·simp;omega
  ·simp;omega
theorem yv {V:View}{p q:OA}{n c m e:Nat}{xa xb:List Nat}(ha:RD V p n c xa)(hb:RD V q m e xb)(hm:xa.length<=1099511627776)(hn:xb.length<=1099511627776) :
  Acts prog 244 #[.slice p n c,.slice q m e] V fun r V'=>∃p' n' c',r=.tuple #[.slice p' n' c',.bool (decide (val xb<=val xa))]/\RN V' p' n' c' (val xa-val xb):=by
 refine E3 p n c q m e V _ fun u b=>(yo (ha.le b) (hb.le b) hm hn).mono ?_;rintro r V2 f rfl;refine ⟨_,rfl,fun a l d=>?_,fun a l d=>?_⟩
 ·have a:val xa<val xb:=by simpa [fF] using a
  rw [Nat.sub_eq_zero_of_le (by omega),decide_eq_false (by omega)];exact ⟨_,_,_,rfl,RD.nil⟩
 ·have a:val xb<=val xa:=by simpa [←Int.not_lt,fF] using a
  rw [decide_eq_true a];refine (aO ((ha.le b).le (f.trans d)) (by omega)).mono ?_;rintro r v o ⟨w,rfl,g⟩;refine ⟨_,_,_,rfl,fun x h=>(aO ((hb.le b).le (f.trans (d.trans (o.trans h)))) (by omega)).mono ?_⟩;rintro r y s ⟨z,rfl,i⟩;rw [aK ha.fh] at g;rw [aK hb.fh] at i;have:=bq ha.fh;refine ⟨_,_,_,rfl,fun A j=>(DT (g.le (h.trans (s.trans j))) (i.le j) (by omega) (aB a) (by rw [ab,ab];exact a)).mono ?_⟩;rintro r B C ⟨p',n',c',rfl,k⟩;rw [ab,ab] at k;exact ⟨_,_,_,rfl,fun D t=>⟨_,_,_,rfl,k.le t⟩⟩
end Go.Proofs.Tryz
