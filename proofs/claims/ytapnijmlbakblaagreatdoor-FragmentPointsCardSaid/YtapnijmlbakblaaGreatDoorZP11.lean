import Derived.Test.YtapnijmlbakblaaGreatDoorZP6
import Derived.Test.YtapnijmlbakblaaGreatDoorCards
import Derived.Test.YtapnijmlbakblaaGreatDoorTie
import Derived.WalkKit
import Derived.ProofKit
import Derived.OpenShut
import Derived.Deep.DeepHandedRow
import Derived.LaidLaws
import Derived.Lay
import Derived.Carry
import Derived.IntWalk
import Derived.Test.YtapnijmlbakblaaGreatDoorZP7
set_option linter.unusedVariables false
open Go.IntKind (i64 u64 u32)
namespace Go.Proofs.YtapnijmlbakblaaGreatDoor
open Go.ChangeShapes Go.WideShapes Go.ChangeAt Go.RowKit Go.Eng
theorem own:ownKnob Tryz.prog.godebug=none:=by kernel_rfl
def View.all (W:World):View:=⟨W,fun _=>False,fun _=>False,fun _ h=>h.elim,fun _ h=>h⟩
theorem B9 {w w':World}(h:h_ (fun _=>False) w w')(may:MemPlace->Prop):w.keptBut w' may:=by
 refine ⟨h.os,h.out,fun i a=>?_⟩;rw [h.bI i a (fun h=>h)]
 cases w.heap[i]? with
 | none=>rfl
 | some o=>cases o<;>simp
theorem xw {f:FuncId}{args:Array Value}{W:World}{R:Value->Prop}(h:aa Tryz.prog f args (View.all W) fun r _=>R r):Calls Tryz.prog f args W fun e w'=>∃r,e=.returned r/\R r/\h_ (fun _=>False) W w':=
 h.2.mono fun e w' ⟨r,he,a,b⟩=>⟨r,he,b,a⟩
theorem laidOut:laidOutB Tryz.prog=true:=by kernel_rfl
theorem zG {w w':World}(h:h_ (fun _=>False) w w'):Below w.heap.size w w':=⟨h.os,h.tape,h.out,h.size,fun k a=>h.bI k a (fun h=>h)⟩
theorem FY {P:Program}(hlo:laidOutB P=true){H:Type}{enc:TypeId×Value->H}{W W':World}(hb:Below W.heap.size W W')(ts:List TypeId):∀{vs:List Value} {ds:List (DataW H)} {ps:List MemPlace},
  (ts.all fun t=>P.readableRec t&&decide (t<P.types.size))=true->DataW.TrodAll enc P W 0 (fun _=>true) true ts vs ds ps->(∀x∈ps,x.block<W.heap.size) ->
   DataW.TrodAll enc P W' 0 (fun b=>decide (b<W.heap.size)) true ts vs ds ps:=by
 induction ts with
 | nil=>
  intro vs ds ps _ h _;obtain ⟨rfl,rfl,rfl⟩:=trodAll_nil h;exact trodAll_mk0
 | cons t ts ih=>
  intro vs ds ps c h a;obtain ⟨v,f,d,g,p,q,rfl,rfl,rfl,i,j⟩:=trodAll_cons h;simp only [List.all_cons,Qx1,decide_eq_true_eq] at c;exact trodAll_cons_mk (Below.trod hlo c.1.1 c.1.2 i hb fun x e=>a x (Qk3 _ e)) (ih c.2 j fun x e=>a x (Qb7 _ e))
set_option maxRecDepth 100000 in
theorem KJ {H:Type}{enc:TypeId×Value->H}{Vi:FuncId}{f:Func}{s:ChangeSpec}{W:World}{args:Array Value}{ds gs:List (DataW H)}{before:List MemPlace}{fresh handsOn:Bool}
  (hW:DataW.Whole enc Tryz.prog f.params.toList s.vars false W args.toList ds gs before)(hvars:s.vars=[])(hts:(f.params.toList.all fun t=>Tryz.prog.readableRec t&&decide (t<Tryz.prog.types.size))=true)
  (hres:f.resultTypes=#[4])(hs:s.fn H (ds++gs)={ results:=[.lit (.bool true)],args:=ds })
  (h:aa Tryz.prog Vi args (View.all W) fun r _=>r=.bool true):Calls Tryz.prog Vi args W fun e W'=>∃v,e=.returned v/\s.post enc Tryz.prog f false fresh handsOn false W args v W':=by
 refine (xw h).mono fun e W' ⟨r,he,g,a⟩=>?_;subst he g;have b:=hW;obtain ⟨p,q,i,d,rfl,-,-⟩:=hW;rw [hvars] at d;obtain ⟨rfl,rfl⟩:=trodVars_none d;have c:∀x∈p++[],x.block<W.heap.size:=fun x a=>b.lt x a;refine ⟨_,rfl,ds,_,p++[],[],p++[],[],b,?_,?_,?_,B9 a _,fun h=>nomatch h⟩
 ·rw [hs,hres];exact trodAll_cons_mk (shut_bool Tryz.underlying4 _) trodAll_mk0
 ·rw [hs,Qk2];exact FY laidOut (zG a) _ hts i fun x a=>c x (by rw [Qk2];exact a)
 ·rw [hs,hvars];rfl
set_option maxRecDepth 100000 in
theorem Cw {H:Type}{enc:TypeId×Value->H}{W:World}{p:OA}{n c:Nat}{d:DataW H}{ps:List MemPlace}
  (h:DataW.Trod enc Tryz.prog W 0 (fun _=>true) true 22 (.slice p n c) d ps):n<=c/\∀i,i<n->∃(a:Addr)(x:Int),ah p (i*1)=some a/\(View.all W).at a (.int .i64 x):=by
 obtain ⟨fuel,k⟩:=h;rcases open_ints Tryz.underlying22 Tryz.underlying3 (show Tryz.prog.cellsOf 3=1 by kernel_rfl) k with ⟨b,-⟩|⟨a,f,g,o,b,_,l,-,m,-,e,-⟩
 ·simp [Value.cells] at b;obtain ⟨rfl,rfl,rfl⟩:=b;exact ⟨Qq3 _,fun i j=>absurd j (by omega)⟩
 ·simp [Value.cells] at b;obtain ⟨rfl,rfl,rfl⟩:=b;simp only [if_true] at m;exact ⟨l,fun i j=>⟨a.add i,_,by rw [Qk0];rfl,fun h=>h,e i (by omega)⟩⟩
end Go.Proofs.YtapnijmlbakblaaGreatDoor
namespace Go.Big
def val:List Nat->Nat
 | []=>0
 | d::r=>d+4294967296*val r
def bK (ds:List Nat):Prop:=∀d∈ds,d<4294967296
def bY:List Nat->List Nat
 | []=>[]
 | d::r=>if bY r=[]/\d=0 then [] else d::bY r
def rO (ds:List Nat):Prop:=bY ds=ds
def uK:Nat->Nat->List Nat
 | 0,_=>[]
 | f+1,n=>if n=0 then [] else n%4294967296::uK f (n / 4294967296)
def ai (n:Nat):List Nat:=uK n n
@[simp] theorem dS:val []=0:=rfl
@[simp] theorem bq (d:Nat)(r:List Nat):val (d::r)=d+4294967296*val r:=rfl
theorem bK.nil:bK []:=fun _ h=>nomatch h
theorem bK.cons {d:Nat}{r:List Nat}:bK (d::r)↔d<4294967296/\bK r:=by simp [bK]
theorem bK.append {a b:List Nat}:bK (a++b)↔bK a/\bK b:=by simp [bK,or_imp,forall_and]
theorem bK.take {a:List Nat}(h:bK a)(k:Nat):bK (a.take k):=fun d b=>h d (Qm7 b)
theorem bK.drop {a:List Nat}(h:bK a)(k:Nat):bK (a.drop k):=fun d b=>h d (Qf5 b)
theorem bK.set {a:List Nat}(h:bK a)(k x:Nat)(hx:x<4294967296):bK (a.set k x):=fun d c=>by
 rcases List.mem_or_eq_of_mem_set c with b|b
 ·exact h d b
 ·exact b▸hx
theorem bK.get {a:List Nat}(h:bK a){i:Nat}(hi:i<a.length):a[i]<4294967296:=h _ (Qy3 hi)
theorem bK.rep (n:Nat):bK (List.replicate n 0):=fun d a=>by rw [Qf9 a];omega
theorem cU (a b:List Nat):val (a++b)=val a+4294967296^a.length*val b:=by
 induction a with
 | nil=>simp
 | cons d r ih=>simp only [Qd6,bq,ih,Qz2,Qz6];grind
theorem eQ {ds:List Nat}(h:bK ds):val ds<4294967296^ds.length:=by
 induction ds with
 | nil=>simp
 | cons d r ih=>
  have a:=bK.cons.1 h;have:=ih a.2;have c:=a.1;simp only [bq,Qz2,Qz6];have b:val r+1<=4294967296^r.length:=this;have e:=Qy4 4294967296 b;omega
theorem t_ (n:Nat):val (List.replicate n 0)=0:=by
 induction n with
 | zero=>rfl
 | succ n ih=>simp [Qp3,ih]
theorem az (ds:List Nat)(i:Nat)(h:i<ds.length:=by omega):val (ds.take (i+1))=val (ds.take i)+4294967296^i*ds[i]:=by
 rw [Qx8 h,cU];simp [Qw0,Qy5 (Qg9 h)]
theorem aq {ds:List Nat}{i:Nat}(h:ds.length<=i:=by omega):val (ds.take i)=val ds:=by rw [Qc1 h]
theorem xG (ds:List Nat)(i x:Nat)(h:i<ds.length):(ds.set i x).take (i+1)=ds.take i++[x]:=by
 rw [Qx8 (by simpa using h),Qs6,Qc7 (by simp;omega)];simp
theorem aL (ds:List Nat)(i x:Nat)(h:i<ds.length:=by omega):val ((ds.set i x).take (i+1))=val (ds.take i)+4294967296^i*x:=by
 rw [xG ds i x h,cU];simp [Qw0,Qy5 (Qg9 h)]
theorem gV (r:List Nat):bY (r++[0])=bY r:=by
 induction r with
 | nil=>simp [bY]
 | cons d r ih=>simp only [Qd6,bY,ih]
theorem oq (r:List Nat)(d:Nat)(h:d≠0):bY (r++[d])=r++[d]:=by
 induction r with
 | nil=>simp [bY,h]
 | cons x r ih=>simp [Qd6,bY,ih]
theorem G9 (ds:List Nat):val (bY ds)=val ds:=by
 induction ds with
 | nil=>rfl
 | cons d r ih=>
  simp only [bY];split
  ·rename_i h;rw [bq,←ih,h.1,h.2];rfl
  ·simp [ih]
theorem kv (ds:List Nat):(bY ds).length<=ds.length:=by
 induction ds with
 | nil=>simp [bY]
 | cons d r ih=>simp only [bY];split<;>simp<;>omega
theorem G7 (ds:List Nat):bY ds=ds.take (bY ds).length:=by
 induction ds with
 | nil=>rfl
 | cons d r ih=>
  simp only [bY];split
  ·rfl
  ·simp only [Qz2,List.take_succ_cons];rw [←ih]
theorem bK.trim {ds:List Nat}(h:bK ds):bK (bY ds):=by rw [G7];exact h.take _
theorem CJ (ds:List Nat):rO (bY ds):=by
 unfold rO
 induction ds with
 | nil=>rfl
 | cons d r ih=>
  rw [bY];split
  ·rfl
  ·rename_i h;rw [bY,ih,if_neg h]
theorem rO.tail {d:Nat}{r:List Nat}(h:rO (d::r)):rO r:=by
 unfold rO at h ⊢;simp only [bY] at h;split at h
 ·cases h
 ·injection h
theorem rO.zero {ds:List Nat}(h:rO ds)(hv:val ds=0):ds=[]:=by
 induction ds with
 | nil=>rfl
 | cons d r ih=>
  have a:=ih h.tail (by simp at hv;omega);subst a;simp at hv;subst hv;simp [rO,bY] at h
theorem oW:∀(f n:Nat),n<=f->val (uK f n)=n/\bK (uK f n)/\rO (uK f n)
 | 0,n,h=>⟨by simp [uK];omega,bK.nil,rfl⟩
 | f+1,n,h=>by
  simp only [uK];split
  ·subst_vars;exact ⟨rfl,bK.nil,rfl⟩
  ·obtain ⟨h1,h2,h3⟩:=oW f (n / 4294967296) (by omega);refine ⟨by rw [bq,h1];omega,bK.cons.2 ⟨by omega,h2⟩,?_⟩;unfold rO at h3 ⊢;rw [bY,h3,if_neg];rintro ⟨a,b⟩;rw [a] at h1;simp at h1;omega
theorem ae (n:Nat):val (ai n)=n:=(oW n n (Qq3 _)).1
theorem aH (n:Nat):bK (ai n):=(oW n n (Qq3 _)).2.1
theorem gG (n:Nat):rO (ai n):=(oW n n (Qq3 _)).2.2
theorem rO.ext:∀{a b:List Nat},bK a->bK b->rO a->rO b->val a=val b->a=b
 | [],b,_,_,_,hb,h=>(hb.zero (by rw [←h];rfl)).symm
 | d::r,[],_,_,ha,_,h=>by have:=ha.zero h;cases this
 | d::r,e::s,ha,hb,na,nb,h=>by
  have f:=(bK.cons.1 ha).1;have g:=(bK.cons.1 hb).1;simp only [bq] at h;have:val r=val s:=by omega
  have c:=rO.ext (bK.cons.1 ha).2 (bK.cons.1 hb).2 na.tail nb.tail this;have:d=e:=by omega
  subst this;rw [c]
theorem oY {ds:List Nat}(h:bK ds)(hn:rO ds):ai (val ds)=ds:=rO.ext (aH _) h (gG _) hn (ae _)
theorem aQ {ds:List Nat}(h:bK ds):bY ds=ai (val ds):=by
 rw [←G9,oY h.trim (CJ _)]
theorem oX {a b:Nat}(h:ai a=ai b):a=b:=by rw [←ae a,h,ae]
@[simp] theorem yP:ai 0=[]:=rfl
theorem bd {n:Nat}:ai n=[]↔n=0:=⟨fun h=>oX (by rw [h];rfl),fun h=>h▸rfl⟩
theorem rO.last {ds:List Nat}(h:rO ds)(hl:0<ds.length):ds[ds.length-1]≠0:=by
 intro e
 have a:ds=ds.take (ds.length-1)++[ds[ds.length-1]]:=by
  rw [←Qx8 (by omega),Qv4 hl,Qv2]
 rw [e] at a;have b:bY ds=ds:=h;rw [a,gV] at b;have:=kv (ds.take (ds.length-1));rw [b] at this;simp at this;omega
theorem sk {ds:List Nat}(h:∀hl:0<ds.length,ds[ds.length-1]≠0):rO ds:=by
 rcases Qx9 ds.length with e|e
 ·rw [Qq6.1 e];rfl
 ·have a:ds=ds.take (ds.length-1)++[ds[ds.length-1]]:=by
   rw [←Qx8 (by omega),Qv4 e,Qv2]
  have:=oq (ds.take (ds.length-1)) _ (h e);rw [←a] at this;exact this
theorem JN {ds:List Nat}(h:rO ds)(hl:0<ds.length:=by omega):4294967296^(ds.length-1)<=val ds:=by
 have a:ds=ds.take (ds.length-1)++[ds[ds.length-1]]:=by
  rw [←Qx8 (by omega),Qv4 hl,Qv2]
 have b:=h.last hl;rw [a,cU];simp only [bq,dS,Qw0];rw [Qy5 (by omega)];simp only [Qq5,Qw0,Qn8];rw [Qy5 (by omega),Qv4 hl];have:4294967296^(ds.length-1)*1<=4294967296^(ds.length-1)*(ds[ds.length-1]+4294967296*0):=Qy4 _ (by omega);omega
theorem aI {n k:Nat}:(ai n).length<=k↔n<4294967296^k:=by
 constructor
 ·intro h;have:=eQ (aH n);rw [ae] at this;exact Qx2 this (Qw9 (by omega) h)
 ·intro h;rcases Qy8 k (ai n).length with a|a
  ·have:=JN (gG n);rw [ae] at this;have b:4294967296^k<=4294967296^((ai n).length-1):=Qw9 (by omega) (by omega);omega
  ·exact a
theorem rW {n k:Nat}:k<(ai n).length↔4294967296^k<=n:=by
 have:=@aI n k;omega
theorem fU (ds:List Nat)(i:Nat)(h:i<ds.length:=by omega):val ds=val (ds.take i)+4294967296^i*(ds[i]+4294967296*val (ds.drop (i+1))):=by
 have a:val ds=val (ds.take i++ds.drop i):=by rw [Qk5]
 rw [a,cU,Qw4 h];simp only [Qw0,Qy5 (Qg9 h),bq]
theorem jv {a b:List Nat}{i:Nat}(ha:bK a)(hi:i<a.length)(hj:i<b.length)(hd:a.drop (i+1)=b.drop (i+1))(hl:a[i]<b[i]):val a<val b:=by
 rw [fU a i hi,fU b i hj,hd];have c:=eQ (ha.take i);simp only [Qw0,Qy5 (Qg9 hi)] at c;have d:4294967296^i*(a[i]+4294967296*val (b.drop (i+1))+1)<=4294967296^i*(b[i]+4294967296*val (b.drop (i+1))):=Qy4 _ (by omega);rw [Qj1,Qk0] at d;omega
theorem ki {a b:Nat}(h:(ai a).length<(ai b).length:=by omega):a<b:=by
 have c:=eQ (aH a);have d:=JN (gG b);rw [ae] at c d;have e:4294967296^(ai a).length<=4294967296^((ai b).length-1):=Qw9 (by omega) (by omega);omega
def jF (a b:Nat):Int:=if a<b then -1 else if b<a then 1 else 0
theorem aD {a b:Nat}(h:a<=b:=by omega):(ai a).length<=(ai b).length:=by
 rcases Qy8 (ai b).length (ai a).length with c|c
 ·have:=ki c;omega
 ·exact c
theorem aW {ds:List Nat}(h:bK ds):(ai (val ds)).length<=ds.length:=by rw [←aQ h];exact kv ds
theorem Km {n:Nat}(h:n<4294967296)(h0:n≠0:=by omega):ai n=[n]:=by
 have:rO [n]:=by simp [rO,bY,h0]
 have:=oY (by simp [bK];exact h) this;simpa using this
end Go.Big
namespace Go.Eng
open Go.Big
theorem ar {x:Int}(h:-9223372036854775808<=x/\x<=9223372036854775807):i64.wrap x=x:=IntWalk.i64_in x h
theorem aM {x:Int}(h:0<=x/\x<=18446744073709551615):u64.wrap x=x:=IntWalk.u64_in x h
theorem pW {x:Int}(h:0<=x/\x<=4294967295):u32.wrap x=x:=IntWalk.u32_in x h
theorem ij (x:Int):u32.wrap x=x%4294967296:=by rw [IntKind.wrap_u32]
theorem rv (x:Int):u64.wrap x=x%18446744073709551616:=by rw [IntKind.wrap_u64]
theorem lB {x:Int}:x.fdiv (2^32)=x / 4294967296:=by rw [Qh7 _ (by decide)];rfl
theorem Jy {x:Int}:x.fdiv (2^63)=x / 9223372036854775808:=by rw [Qh7 _ (by decide)];rfl
theorem Cm (a b:Nat)(ha:a<4294967296)(hb:b<4294967296):aU .or .u64 ((a:Int)*4294967296) (b:Int)=(a:Int)*4294967296+b:=by
 have c:((a:Int)*4294967296)=((a*2^32:Nat):Int):=by simp
 rw [aU,c,rv]
 have d:(BitVec.ofInt IntKind.u64.bits ((a*2^32:Nat):Int) ||| BitVec.ofInt IntKind.u64.bits (b:Int)).toNat=a*2^32+b:=by
  show (BitVec.ofInt 64 ((a*2^32:Nat):Int) ||| BitVec.ofInt 64 (b:Int)).toNat=_;rw [Qk4,Qk4,Wx1,Qj9,Qj9,Qx7 (by omega),Qx7 (by omega)];have:=Qs4 (b:=b) (i:=32) (by omega) a;rw [Ww6] at this;exact this.symm
 rw [d];omega
def aG (ds:List Nat):List Value:=ds.map fun (d:Nat)=>Value.int .u32 (d:Int)
@[simp] theorem PZ (ds:List Nat):(aG ds).length=ds.length:=by simp [aG]
theorem bz (ds:List Nat)(i x:Nat):(aG ds).set i (.int .u32 (x:Int))=aG (ds.set i x):=by simp [aG,List.map_set]
theorem cE (n:Nat):List.replicate n (Value.int .u32 0)=aG (List.replicate n 0):=by simp [aG]
theorem fB {ds:List Nat}{i:Nat}(h:i<ds.length:=by omega):(aG ds)[i]?=some (.int .u32 (ds[i]:Int)):=by simp [aG,h]
theorem zx (ds:List Nat)(k:Nat):aG (ds.take k)=(aG ds).take k:=by simp [aG,Ww3]
theorem G8 (ds:List Nat)(k:Nat):aG (ds.drop k)=(aG ds).drop k:=by simp [aG,Ww4]
theorem sG (a b:List Nat):aG (a++b)=aG a++aG b:=by simp [aG]
theorem View.Le.sl {V V':View}(h:V.Le V'){a:OA}{xs:List Value}(hs:V.sl a xs):V'.sl a xs:=
 fun i v b=>let ⟨ad,e,ha⟩:=hs i v b;⟨ad,e,h.at ha⟩
structure RD (V:View) (p:OA) (n c:Nat) (ds:List Nat):Prop where
 len:n=ds.length
 cap:n<=c
 sl:V.sl p (aG ds)
 cV:bK ds
 KO:p.isNone=true->c=0
theorem RD.le {V V':View}{p:OA}{n c:Nat}{ds:List Nat}(h:RD V p n c ds)(l:V.Le V'):RD V' p n c ds:=⟨h.len,h.cap,l.sl h.sl,h.cV,h.KO⟩
theorem RD.nil {V:View}:RD V none 0 0 []:=⟨rfl,Qq3 _,fun i v h=>by simp [aG] at h,bK.nil,fun _=>rfl⟩
theorem RD.take {V:View}{p:OA}{n c:Nat}{ds:List Nat}(h:RD V p n c ds){k:Nat}(hk:k<=n):RD V p k c (ds.take k):=by
 have:=h.len;refine ⟨by simp;omega,by have:=h.cap;omega,fun i v a=>h.sl i v ?_,h.cV.take k,h.KO⟩;rw [zx] at a;rw [Qv3] at a;split at a
 ·exact a
 ·cases a
theorem RD.rd {V:View}{p:OA}{n c:Nat}{ds:List Nat}(h:RD V p n c ds){i:Int}{K:Int->Prop}(j:Nat)(hj:i=j)(hn:j<ds.length)
  (hK:K ((ds[j]:Nat):Int)):(p.isSome=true)/\(0<=i/\i<(n:Int))/\∃x:Int,(∃a,ah p (i.toNat*1)=some a/\V.at a (.int .u32 x))/\K x:=by
 obtain ⟨b,e,d⟩:=h.sl j _ (fB hn);have:=h.len;subst hj;refine ⟨by rw [e];rfl,⟨by omega,by omega⟩,_,⟨b.add j,?_,d⟩,hK⟩;rw [e];simp [ah]
theorem fJ {V:View}{b:Nat}{xs:List Value}{ty:TypeId}{m:Nat×Nat}(h:V.bI b (.cells xs.toArray ty m)){i:Nat}{v:Value}(hv:xs[i]?=some v):V.at ⟨b,i,none⟩ v:=by
 refine ⟨h.1,?_⟩;unfold World.cell?;rw [h.2];simpa using hv
theorem add_zero' (b i:Nat):(⟨b,0,none⟩:Addr).add i=⟨b,i,none⟩:=by
 unfold Addr.add;split
 ·rename_i h;simp_all
 ·simp
theorem RD.bI {V:View}{b:Nat}{ds:List Nat}{ty:TypeId}{m:Nat×Nat}(h:V.bI b (.cells (aG ds).toArray ty m))(hd:bK ds){n c:Nat}(hn:n=ds.length)(hc:n<=c):RD V (some ⟨b,0,none⟩) n c ds:=
 ⟨hn,hc,fun i v a=>⟨_,rfl,by rw [add_zero'];exact fJ h a⟩,hd,fun e=>nomatch e⟩
end Go.Eng
namespace Go.Proofs.Tryz
open Go.Eng Go.Big
theorem aX {V:View}{p:OA}{n c:Nat}{ds:List Nat}(h:RD V p n c ds)(hm:ds.length<=4611686018427387904:=by omega) :
  aa prog 196 #[.slice p n c] V fun r V'=>∃k,r=.slice p k c/\RD V' p k c (bY ds):=by
 refine C4 p n c V _ ?_;refine ⟨fun z V'=>z.1=p/\z.2.2=c/\z.2.1<=ds.length/\bY (ds.take z.2.1)=bY ds/\RD V' p z.2.1 c (ds.take z.2.1),fun z=>z.2.1,⟨(p,n,c),⟨rfl,rfl,rfl⟩,rfl,rfl,?_⟩,?_⟩
 ·have:=h.len;subst this;simp;exact h
 ·rintro ⟨q,k,i⟩ m o ⟨rfl,rfl,j,e,d⟩;dsimp only at j e d ⊢;refine ⟨rfl,fun a=>?_,fun a=>?_⟩
  ·have a:0<k:=by simpa using a
   simp (disch:=omega) only [ar];have s:(ds.take k).length=k:=by simp;omega
   have f:ds.take k=ds.take (k-1)++[ds[k-1]]:=by rw [←Qx8 (by omega),Qv4 a]
   refine d.rd (k-1) (by omega) (by omega) ⟨fun b=>?_,fun b=>?_⟩
   ·have b:ds[k-1]=0:=by simpa using b
    refine ⟨⟨by omega,by have:=d.cap;omega⟩,(q,k-1,i),by dsimp only;omega,⟨rfl,by dsimp only;omega,rfl⟩,rfl,rfl,by dsimp only;omega,?_,?_⟩
    ·dsimp only;rw [←e,f,b,gV]
    ·have:=d.take (k:=k-1) (by omega);dsimp only
     rwa [Qh9,Qy5 (by omega)] at this
   ·have b:ds[k-1]≠0:=by simpa using b
    refine fun l g=>⟨k,rfl,?_⟩;rw [←e,f,oq _ _ b,←f];exact d.le g
  ·have a:k=0:=by simpa using a
   subst a;refine fun l g=>⟨0,rfl,?_⟩;rw [←e];exact d.le g
theorem lL {V:View}{p:OA}{n c:Nat}{ds:List Nat}(h:RD V p n c ds)(hm:ds.length<=1099511627776:=by omega) :
  aa prog 231 #[.slice p n c] V fun r V'=>∃q k c',r=.slice q k c'/\RD V' q k c' ds:=by
 have g:=h.len;refine tS p n c V _ ⟨fun f m o=>⟨_,_,_,rfl,?_⟩,fun f=>⟨aG ds,h.sl,by simp [g],by omega,by omega,by simp,by simp [g],?_,?_⟩⟩
 ·have f:p=none:=by simpa using f
  subst f
  have:ds=[]:=by
   rcases Qx9 ds.length with e|e
   ·exact Qq6.1 e
   ·obtain ⟨s,e,-⟩:=h.sl 0 _ (fB e);cases e
  subst this;exact RD.nil
 ·intro v a;simp only [aG,Qy0] at a;obtain ⟨d,-,rfl⟩:=a;rfl
 ·intro t J sp c' j u m o b l;refine ⟨_,_,_,rfl,?_⟩;simp only [Qy1,Qd8,Qc2,Qm3] at l j ⊢;exact ⟨g,j,fun i v a=>⟨_,rfl,by rw [add_zero'];exact fJ l (by rw [Qx4 (by rcases Qy8 i (aG ds).length with e|e;exact e;rw [Qj6 e] at a;cases a)];exact a)⟩,h.cV,fun e=>nomatch e⟩
abbrev RN (V:View)(p:OA)(n c:Nat)(x:Nat):Prop:=RD V p n c (ai x)
theorem iF {V:View}{p:OA}{n c:Nat}{ds:List Nat}(h:RD V p n c ds)(hm:ds.length<=1099511627776) :
  aa prog 195 #[.slice p n c] V fun r V'=>∃q k c',r=.slice q k c'/\RN V' q k c' (val ds):=by
 refine C0 p n c V _ fun g a=>(aX (h.le a)).mono ?_;rintro r i j ⟨k,rfl,b⟩;refine ⟨_,_,_,rfl,fun l d=>(lL (b.le d) (by have:=kv ds;omega)).mono ?_⟩;rintro r m o ⟨q,s,c',rfl,e⟩;refine ⟨_,_,_,rfl,fun t f=>⟨_,_,_,rfl,?_⟩⟩;unfold RN;rw [←aQ h.cV];exact e.le f
theorem oU {V:View}{p:OA}{n c:Nat}{ds:List Nat}(h:RD V p n c ds)(hm:ds.length<=1099511627776) :
  aa prog 146 #[.slice p n c] V fun r V'=>r=.bool (decide (ai (val ds)=ds)):=by
 have d:=h.len;refine yg p n c V _ ⟨fun a e f=>?_,fun a=>?_⟩
 ·have:ds=[]:=Qq6.1 (by simp at a;omega);subst this;rfl
 ·have a:0<n:=by simp at a;omega
  simp (disch:=omega) only [ar];refine h.rd (n-1) (by omega) (by omega) fun e f=>?_;congr 1;rw [Qx6];simp only [bne_iff_ne,ne_eq,decide_eq_true_eq];subst d;constructor
  ·intro b;exact oY h.cV (sk fun _=>by simpa using b)
  ·intro he b;have:rO ds:=by rw [←he];exact gG _
   exact this.last (by omega) (by simpa using b)
theorem dp {V:View}(u:Int)(h0:0<=u)(h1:u<18446744073709551616:=by omega) :
  aa prog 197 #[.int .u64 u] V fun r V'=>∃q k c',r=.slice q k c'/\RN V' q k c' u.toNat:=by
 obtain ⟨u,rfl⟩:=Qq7 h0;refine tJ _ V _ ⟨by omega,fun e h f a=>?_⟩;rw [lB,ij,pW (by omega)] at a
 have a:e.bI f (.cells (aG [u%4294967296,u / 4294967296]).toArray 221 (0,0)):=by
  simpa [aG] using a
 have d:bK [u%4294967296,u / 4294967296]:=by simp [bK];omega
 refine (aX (RD.bI a d (n:=2) (c:=2) rfl (Qq3 _)) (by simp)).mono ?_;rintro r i j ⟨k,rfl,b⟩;refine ⟨_,_,_,rfl,fun _ l g=>⟨_,_,_,rfl,?_⟩⟩;rw [aQ d] at b;have:val [u%4294967296,u / 4294967296]=(u:Int).toNat:=by simp;omega
 rw [this] at b;exact b.le g
theorem yI {V:View}{p q:OA}{n c m e:Nat}{xa xb:List Nat}(ha:RD V p n c xa)(hb:RD V q m e xb)(hm:xa.length<=1099511627776)(hn:xb.length<=1099511627776:=by omega) :
  aa prog 230 #[.slice p n c,.slice q m e] V fun r V'=>r=.int .i64 (jF (val xa) (val xb)):=by
 have la:=kv xa;have lb:=kv xb;refine EK p n c q m e V _ fun J w=>(aX (ha.le w)).mono ?_;rintro r K D ⟨n,rfl,g⟩;refine ⟨_,_,_,rfl,fun L A=>(aX (hb.le (w.trans (D.trans A)))).mono ?_⟩;rintro r M E ⟨m,rfl,j⟩;refine ⟨_,_,_,rfl,?_⟩
 replace g:=g.le (A.trans E)
 rw [aQ ha.cV] at g la;rw [aQ hb.cV] at j lb;generalize val xa=x at *;generalize val xb=y at *;have F:=g.len;have G:=j.len;refine ⟨fun h=>⟨fun d B C=>?_,fun d B C=>?_⟩,fun h=>?_⟩
 ·have:=ki (a:=x) (b:=y) (by simp at d;omega);rw [jF,if_pos this]
 ·have:=ki (a:=y) (b:=x) (by simp at h d;omega);rw [jF,if_neg (by omega),if_pos this]
 ·have h:n=m:=by simp at h;omega
  subst h;simp (disch:=omega) only [ar];refine ⟨fun z V'=>-1<=z/\z<n/\(ai x).drop (z+1).toNat=(ai y).drop (z+1).toNat,fun z=>(z+1).toNat,⟨_,by (try dsimp only);and_intros<;>trivial,by (try dsimp only);omega,by (try dsimp only);omega,?_⟩,?_⟩
  ·(try dsimp only)
   rw [Qx0 (by omega),Qx0 (by omega)]
  ·rintro i N k ⟨o,s,t⟩;dsimp only at o s t ⊢;refine ⟨by trivial,fun d=>?_,fun d B C=>?_⟩
   ·have d:0<=i:=by simpa using d
    obtain ⟨i,rfl⟩:=Qq7 d;simp (disch:=omega) only [ar];have f:(ai x).drop (i+1)=(ai y).drop (i+1):=t;refine (g.le k).rd i rfl (by omega) ((j.le k).rd i rfl (by omega) ⟨fun u H I=>?_,fun u=>?_⟩)
    ·have:=jv (aH x) (by omega) (by omega) f (by simpa using u);rw [ae,ae] at this;rw [jF,if_pos this]
    ·refine (g.le k).rd i rfl (by omega) ((j.le k).rd i rfl (by omega) ⟨fun v H I=>?_,fun v=>?_⟩)
     ·have:=jv (aH y) (by omega) (by omega) f.symm (by simpa using v);rw [ae,ae] at this;rw [jF,if_neg (by omega),if_pos this]
     ·refine ⟨_,?_,by (try dsimp only);and_intros<;>trivial,?_,?_,?_⟩
      ·(try dsimp only);omega
      ·(try dsimp only);omega
      ·(try dsimp only);omega
      ·(try dsimp only)
       have:((i:Int)-1+1).toNat=i:=by omega
       rw [this,Qw4 (by omega),Qw4 (l:=ai y) (by omega),f];congr 1;simp at u v;omega
   ·have d:i=-1:=by simp at d;omega
    subst d;have:ai x=ai y:=by simpa using t
    have:=oX this;subst this;simp [jF]
theorem uh {E A B c d x y W:Nat}(h:E+W*c=A+B)(hd:d=c+x+y:=by omega):E+W*(d%4294967296)+W*4294967296*(d / 4294967296)=A+W*x+(B+W*y):=by
 have a:W*(d%4294967296)+W*4294967296*(d / 4294967296)=W*d:=by
  rw [Qz7,←Qj1,Qg0]
 rw [Qj2,a,hd,Qj1,Qj1];omega
theorem F8 {V:View}{p q:OA}{n c m e:Nat}{xa xb:List Nat}(ha:RD V p n c xa)(hb:RD V q m e xb)(hm:xa.length<=1099511627776)(hn:xb.length<=1099511627776) :
  aa prog 250 #[.slice p n c,.slice q m e] V fun r V'=>∃p' n' c',r=.slice p' n' c'/\RN V' p' n' c' (val xa+val xb):=by
 have B:=ha.len;have C:=hb.len;refine EJ p n c q m e V _ ⟨fun z V'=>∃xs b,RD V' z.1 z.2.1 z.2.2.1 xs/\RD V' z.2.2.2.1 z.2.2.2.2.1 z.2.2.2.2.2 b/\b.length<=xs.length/\xs.length<=1099511627776/\val xs+val b=val xa+val xb,⟨fun D=>?_,fun D=>?_⟩,?_⟩
 ·exact ⟨(_,_,_,_,_,_),by (try dsimp only);and_intros<;>trivial,xb,xa,hb,ha,by simp at D;omega,hn,by omega⟩
 ·exact ⟨(_,_,_,_,_,_),by (try dsimp only);and_intros<;>trivial,xa,xb,ha,hb,by simp at D;omega,hm,rfl⟩
 ·rintro ⟨p,n,c,q,m,e⟩ O P ⟨xs,b,x,A,Q,hm,h⟩;dsimp only at x A ⊢;rw [←h];clear h ha hb B C;have L:=x.len;have R:=A.len;simp (disch:=omega) only [ar,cE];have E:((n:Int)+1).toNat=n+1:=by omega
  rw [E]
  refine ⟨by trivial,by omega,by omega,by omega,fun z V'=>0<=z.1/\z.1<=1/\0<=z.2.1/\z.2.1<=n/\∃es:List Nat,z.2.2=aG es/\es.length=n+1/\bK es /\
   val (es.take z.2.1.toNat)+4294967296^z.2.1.toNat*z.1.toNat=val (xs.take z.2.1.toNat)+val (b.take z.2.1.toNat),fun z=>n-z.2.1.toNat,⟨(0,0,aG (List.replicate (n+1) 0)),by (try dsimp only);and_intros<;>trivial,by (try dsimp only);omega,by (try dsimp only);omega,by (try dsimp only);omega,by (try dsimp only);omega,_,rfl,by simp,bK.rep _,by simp⟩,?_⟩
  rintro ⟨f,i,S⟩ T K ⟨o,F,s,G,es,rfl,H,t,h⟩;dsimp only at o F s G h ⊢;obtain ⟨i,rfl⟩:=Qq7 s;obtain ⟨f,rfl⟩:=Qq7 o;simp only [Qq0] at h;refine ⟨by trivial,fun l=>?_,fun l=>?_⟩
  ·have l:i<n:=by simpa using l
   refine (x.le K).rd i rfl (by omega) ?_;have U:=x.cV.get (i:=i) (by omega)
   have next:∀d:Nat,d<8589934592->val (es.take i)+4294967296^i*(d%4294967296)+4294967296^i*4294967296*(d / 4294967296)=val (xs.take (i+1))+val (b.take (i+1)) ->
     ∃a:List Nat,(aG es).set i (.int .u32 ((d%4294967296:Nat):Int))=aG a/\a.length=n+1/\bK a /\
     val (a.take (i+1))+4294967296^(i+1)*(d / 4294967296)=val (xs.take (i+1))+val (b.take (i+1)):=by
    intro d W he;refine ⟨es.set i (d%4294967296),bz _ _ _,by simpa using H,t.set _ _ (by omega),?_⟩;rw [aL _ _ _,Qz6];exact he
   refine ⟨fun g=>?_,fun g=>?_⟩
   ·have g:i<m:=by simpa using g
    refine (A.le K).rd i rfl (by omega) ?_;have M:=A.cV.get (i:=i) (by omega);simp (disch:=omega) only [aM,ar,ij,lB];refine ⟨⟨by omega,by omega⟩,by simp;omega,by omega,(_,_,_),?_,by (try dsimp only);and_intros<;>trivial,?_⟩
    ·(try dsimp only);omega
    ·(try dsimp only)
     have j:((i:Int)+1).toNat=i+1:=by omega
     obtain ⟨a,u,v,I,J⟩:=next (f+xs[i]+b[i]) (by omega) (by rw [az _ _,az _ _];exact uh h rfl);refine ⟨by omega,by omega,by omega,by omega,a,?_,v,I,?_⟩
     ·rw [←u];simp
     ·rw [j,←J];congr 2
   ·have g:m<=i:=by simpa using g
    simp (disch:=omega) only [aM,ar,ij,lB];refine ⟨⟨by omega,by omega⟩,by simp;omega,by omega,(_,_,_),?_,by (try dsimp only);and_intros<;>trivial,?_⟩
    ·(try dsimp only);omega
    ·(try dsimp only)
     have j:((i:Int)+1).toNat=i+1:=by omega
     obtain ⟨a,u,v,I,J⟩:=next (f+xs[i]) (by omega) (by
      rw [az _ _,aq (ds:=b) (i:=i+1)];have:=uh (y:=0) h (d:=f+xs[i]) rfl
      rwa [aq (ds:=b),Qj3,Qy9] at this)
     refine ⟨by omega,by omega,by omega,by omega,a,?_,v,I,?_⟩
     ·rw [←u];simp
     ·rw [j,←J];congr 2
  ·have l:i=n:=by simp at l;omega
   subst l;simp (disch:=omega) only [pW];refine ⟨⟨by omega,by omega⟩,by simp;omega,fun X Y Z hb=>?_⟩;have u:(aG es).set (0+((i:Int).toNat)*1) (.int .u32 (f:Int))=aG (es.set i f):=by rw [←bz];simp
   rw [u] at hb;have w:=t.set i f (by omega);refine (aX (RD.bI hb w (n:=i+1) (c:=i+1) (by simp;omega) (Qq3 _)) (by simp;omega)).mono ?_;rintro r V4 l4 ⟨k,rfl,g⟩;refine ⟨_,_,_,rfl,fun _ V5 N=>⟨_,_,_,rfl,?_⟩⟩;rw [aQ w] at g
   have v:val (es.set i f)=val xs+val b:=by
    have:=aL es i f;rw [aq (by simp;omega)] at this;rw [this,h,aq,aq]
   rw [v] at g;exact g.le N
theorem JD {E A B c x y W:Nat}(h:E+B=A+W*c){v:Int}(hc:c<=1)(hx:x<4294967296)(hy:y<4294967296)(hv:v=((x:Int)-(c+y))%18446744073709551616) :
  0<=v/\v / 9223372036854775808<=1/\0<=v / 9223372036854775808/\E+W*(v%4294967296).toNat+(B+W*y)=A+W*x+W*4294967296*(v / 9223372036854775808).toNat:=by
 rcases Qy8 x (c+y) with d|d
 ·have e:v=18446744073709551616+(x:Int)-(c+y):=by omega
  have a:(v / 9223372036854775808).toNat=1:=by omega
  have b:(v%4294967296).toNat+(c+y)=x+4294967296:=by omega
  refine ⟨by omega,by omega,by omega,?_⟩;rw [a,Qk0];have:=congrArg (W*·) b;simp only [Qj1] at this;omega
 ·have e:v=(x:Int)-(c+y):=by omega
  have a:(v / 9223372036854775808).toNat=0:=by omega
  have b:(v%4294967296).toNat+(c+y)=x:=by omega
  refine ⟨by omega,by omega,by omega,?_⟩;rw [a,Qj3,Qy9];have:=congrArg (W*·) b;simp only [Qj1] at this;omega
theorem DQ {V:View}{p q:OA}{n c m e:Nat}{xs ys:List Nat}(hx:RD V p n c xs)(hy:RD V q m e ys)(hm:xs.length<=1099511627776)(hl:ys.length<=xs.length)(hle:val ys<=val xs) :
  aa prog 262 #[.slice p n c,.slice q m e] V fun r V'=>∃p' n' c',r=.slice p' n' c'/\RN V' p' n' c' (val xs-val ys):=by
 have D:=hx.len;have O:=hy.len
 refine C2 p n c q m e V _ ⟨by omega,by omega,by omega,fun z V'=>0<=z.1/\z.1<=1/\0<=z.2.1/\z.2.1<=n/\∃es:List Nat,z.2.2=aG es/\es.length=n/\bK es /\
   val (es.take z.2.1.toNat)+val (ys.take z.2.1.toNat)=val (xs.take z.2.1.toNat)+4294967296^z.2.1.toNat*z.1.toNat,fun z=>n-z.2.1.toNat,
   ⟨(0,0,List.replicate n (.int .u32 0)),by (try dsimp only);and_intros<;>trivial,by (try dsimp only);omega,by (try dsimp only);omega,by (try dsimp only);omega,by (try dsimp only);omega,List.replicate n 0,cE n,by simp,bK.rep _,by simp⟩,?_⟩
 rintro ⟨j,i,P⟩ Q B ⟨l,u,o,w,es,rfl,d,a,s⟩;dsimp only at l u o w s ⊢;obtain ⟨i,rfl⟩:=Qq7 o;obtain ⟨j,rfl⟩:=Qq7 l;simp only [Qq0] at s;refine ⟨by trivial,fun f=>?_,fun f=>?_⟩
 ·have f:i<n:=by simpa using f
  refine (hx.le B).rd i rfl (by omega) ?_;have E:=hx.cV.get (i:=i) (by omega);refine ⟨fun z V'=>∃y:Nat,z=j+y/\y<4294967296/\val (ys.take (i+1))=val (ys.take i)+4294967296^i*y,⟨fun b=>?_,fun b=>?_⟩,?_⟩
  ·have b:i<m:=by simpa using b
   refine (hy.le B).rd i rfl (by omega) ?_;have g:=hy.cV.get (i:=i) (by omega);simp (disch:=omega) only [aM];exact ⟨_,by (try dsimp only);and_intros<;>trivial,ys[i],rfl,g,az _ _⟩
  ·have b:m<=i:=by simpa using b
   exact ⟨_,by (try dsimp only);and_intros<;>trivial,0,by simp,by omega,by rw [aq,aq];simp⟩
  ·rintro t F G ⟨y,rfl,g,x⟩;refine ⟨by trivial,⟨by omega,by simpa using f⟩,by simp;omega,by omega,?_⟩;simp (disch:=omega) only [aM,ar,rv,ij,Jy];obtain ⟨v,C⟩:∃v:Int,v=((xs[i]:Int)-((j:Int)+(y:Int)))%18446744073709551616:=⟨_,rfl⟩;obtain ⟨R,H,I,J⟩:=JD s (by omega) E g C;rw [←C];refine ⟨(_,_,_),?_,by (try dsimp only);and_intros<;>trivial,?_⟩
   ·(try dsimp only);omega
   ·(try dsimp only)
    have A:((i:Int)+1).toNat=i+1:=by omega
    refine ⟨I,H,by omega,by omega,es.set i (v%4294967296).toNat,?_,by simpa using d,a.set _ _ (by omega),?_⟩
    ·rw [←bz];congr 2
     ·simp
     ·omega
    ·rw [A,aL _ _ _,x,J,az _ _,Qz6]
 ·have f:i=n:=by simp at f;omega
  subst f;intro F G S K;refine (aX (RD.bI K a (n:=i) (c:=i) d.symm (Qq3 _))).mono ?_;rintro r T U ⟨k,rfl,b⟩;refine ⟨_,_,_,rfl,fun _ W L=>⟨_,_,_,rfl,?_⟩⟩;rw [aQ a] at b;rw [aq,aq,aq] at s;have M:=eQ a;rw [d] at M
  have N:j=0:=by
   rcases Qx9 j with h|h
   ·exact h
   ·have:4294967296^i*1<=4294967296^i*j:=Qy4 _ h;omega
  subst N;rw [show val es=val xs-val ys from by omega] at b;exact b.le L
theorem fq {a b:Nat}:jF a b<0↔a<b:=by
 unfold jF;split
 ·simp;omega
 ·split<;>simp<;>omega
theorem ir {a b:Nat}:jF a b=0↔a=b:=by
 unfold jF;split
 ·simp;omega
 ·split
  ·simp;omega
  ·simp;omega
theorem yK {V:View}{p q:OA}{n c m e:Nat}{xa xb:List Nat}(ha:RD V p n c xa)(hb:RD V q m e xb)(hm:xa.length<=1099511627776)(hn:xb.length<=1099511627776) :
  aa prog 251 #[.slice p n c,.slice q m e] V fun r V'=>∃p' n' c',r=.tuple #[.slice p' n' c',.bool (decide (val xb<=val xa))]/\RN V' p' n' c' (val xa-val xb):=by
 refine EP p n c q m e V _ fun u b=>(yI (ha.le b) (hb.le b) hm hn).mono ?_;rintro r v f rfl;refine ⟨_,rfl,fun a l d=>?_,fun a l d=>?_⟩
 ·have a:val xa<val xb:=by simpa [fq] using a
  rw [Nat.sub_eq_zero_of_le (by omega),decide_eq_false (by omega)];exact ⟨_,_,_,rfl,RD.nil⟩
 ·have a:val xb<=val xa:=by simpa [←Wx9,fq] using a
  rw [decide_eq_true a];refine (aX ((ha.le b).le (f.trans d))).mono ?_;rintro r w o ⟨x,rfl,g⟩;refine ⟨_,_,_,rfl,fun y h=>(aX ((hb.le b).le (f.trans (d.trans (o.trans h))))).mono ?_⟩;rintro r z s ⟨A,rfl,i⟩;rw [aQ ha.cV] at g;rw [aQ hb.cV] at i;have:=aW ha.cV;refine ⟨_,_,_,rfl,fun B j=>(DQ (g.le (h.trans (s.trans j))) (i.le j) (by omega) (aD a) (by rw [ae,ae];exact a)).mono ?_⟩;rintro r C D ⟨p',n',c',rfl,k⟩;rw [ae,ae] at k;exact ⟨_,_,_,rfl,fun E t=>⟨_,_,_,rfl,k.le t⟩⟩
end Go.Proofs.Tryz
namespace Go.Big
def bj (n:Nat):Nat:=if n=0 then 0 else n.log2+1
theorem pF (n:Nat):n<2^bj n:=by
 unfold bj;split
 ·subst_vars;decide
 ·exact Nat.lt_log2_self
theorem pE {n:Nat}(h:n≠0):2^(bj n-1)<=n:=by
 unfold bj;rw [if_neg h];exact Nat.log2_self_le h
theorem rR {n b:Nat}(h0:n<2^b)(h1:b=0\/2^(b-1)<=n):bj n=b:=by
 rcases h1 with h1|h1
 ·subst h1;have:n=0:=by simpa using h0
  subst this;rfl
 ·have a:n≠0:=by have:=Qz4 (b-1);omega
  have c:=pF n;have d:=pE a;have e:¬bj n<b:=fun h=>by have:=Qw9 (n:=2) (by omega) (show bj n<=b-1 by omega);omega
  have f:¬b<bj n:=fun h=>by have:=Qw9 (n:=2) (by omega) (show b<=bj n-1 by omega);omega
  omega
theorem eI {n b:Nat}:bj n<=b↔n<2^b:=by
 constructor
 ·intro h;exact Qx2 (pF n) (Qw9 (by omega) h)
 ·intro h;rcases Qy8 b (bj n) with a|a
  ·have c:n≠0:=by intro e;subst e;simp [bj] at a
   have:=pE c;have:=Qw9 (n:=2) (by omega) (show b<=bj n-1 by omega);omega
  ·exact a
theorem uo {n k:Nat}(h:2^k<=n):bj (n / 2^k)+k=bj n:=by
 have a:=Qz4 k;have b:n / 2^k≠0:=by have:=Nat.div_pos h a;omega
 have c:=pF (n / 2^k);have d:=pE b;refine (rR ?_ (.inr ?_)).symm
 ·rw [Qy6];exact (Qv0 a).1 c
 ·have e:0<bj (n / 2^k):=by unfold bj;rw [if_neg b];omega
  rw [show bj (n / 2^k)+k-1=bj (n / 2^k)-1+k from by omega,Qy6];exact (Qh0 a).1 d
end Go.Big
namespace Go.Proofs.Tryz
open Go.Eng Go.Big
theorem fu (a k:Nat):((a:Nat):Int).fdiv (2^k)=((a / 2^k:Nat):Int):=by
 rw [Qh7 _ (by have:=Int.pow_pos (n:=2) (m:=k) (by omega);omega)];simp
def Cb:ByteArray:=⟨#[0,1,2,2,3,3,3,3,4,4,4,4,4,4,4,4,5,5,5,5,5,5,5,5,5,5,5,5,5,5,5,5,6,6,6,6,6,6,6,6,6,6,6,6,6,6,6,6,6,6,6,6,6,6,6,6,6,6,6,6,6,6,6,6,7,7,7,7,7,7,7,7,7,7,7,7,7,7,7,7,7,7,7,7,7,7,7,7,7,7,7,7,7,7,7,7,7,7,7,7,7,7,7,7,7,7,7,7,7,7,7,7,7,7,7,7,7,7,7,7,7,7,7,7,7,7,7,7,8,8,8,8,8,8,8,8,8,8,8,8,8,8,8,8,8,8,8,8,8,8,8,8,8,8,8,8,8,8,8,8,8,8,8,8,8,8,8,8,8,8,8,8,8,8,8,8,8,8,8,8,8,8,8,8,8,8,8,8,8,8,8,8,8,8,8,8,8,8,8,8,8,8,8,8,8,8,8,8,8,8,8,8,8,8,8,8,8,8,8,8,8,8,8,8,8,8,8,8,8,8,8,8,8,8,8,8,8,8,8,8,8,8,8,8,8,8,8,8,8,8,8,8,8,8,8,8]⟩
set_option maxRecDepth 10000 in
theorem Ke {V:View}(x:Nat)(hx:x<4294967296) :
  aa prog 214 #[.int .u32 (x:Int)] V fun r V'=>r=.int .i64 (bj x:Int):=by
 refine oA _ V _ ⟨fun z _=>∃y b:Nat,z=((y:Int),(b:Int))/\y<65536/\b<=16/\bj x=bj y+b,⟨fun a=>⟨by omega,?_⟩,fun a=>?_⟩,?_⟩
 ·rw [fu];have a:2^16<=x:=by simp at a;omega
  exact ⟨_,⟨rfl,rfl⟩,x / 2^16,16,rfl,by omega,by omega,(uo a).symm⟩
 ·exact ⟨_,⟨rfl,rfl⟩,x,0,rfl,by simp at a;omega,by omega,rfl⟩
 ·rintro _ h i ⟨y,b,rfl,d,f,e⟩;rw [e];clear e;refine ⟨by trivial,fun z _=>∃y' b':Nat,z=((y':Int),(b':Int))/\y'<256/\b'<=24/\bj y+b=bj y'+b',⟨fun a=>⟨by omega,?_⟩,fun a=>?_⟩,?_⟩
  ·dsimp only at a ⊢;rw [fu];simp (disch:=omega) only [ar];have a:2^8<=y:=by simp at a;omega
   exact ⟨(((y / 2^8:Nat):Int),(b:Int)+8),⟨rfl,rfl⟩,y / 2^8,b+8,by simp,by omega,by omega,by have:=uo a;omega⟩
  ·exact ⟨_,⟨rfl,rfl⟩,y,b,rfl,by simp at a;omega,by omega,rfl⟩
  ·rintro _ j k ⟨y,b,rfl,d,f,e⟩;rw [e];clear e;have hw:IntKind.u8.wrap (y:Int)=y:=IntWalk.u8_in _ (by omega);dsimp only;rw [hw];have c:(Cb.size:Int)=256:=rfl;refine ⟨by trivial,⟨by omega,by show (y:Int)<(Cb.size:Int);rw [c];omega⟩,fun l m=>?_⟩;show Value.int .i64 (i64.wrap (b+i64.wrap ((Cb.data.toList.getD (y:Int).toNat 0).toNat:Int)))=_;congr 1;have key:∀y:Nat,y<256->(Cb.data.toList.getD y 0).toNat=bj y:=by decide +kernel
   have g:bj y<=8:=eI.2 (by omega);have:=key y d;rw [Qq0,this];simp (disch:=omega) only [ar];omega
theorem fK {V:View}(x:Nat)(hx:x<4294967296) :
  aa prog 227 #[.int .u32 (x:Int)] V fun r V'=>r=.int .i64 (32-(bj x:Int)):=by
 refine im _ V _ fun b c=>(Ke x hx).mono ?_;rintro r d e rfl;have a:bj x<=32:=eI.2 (by omega);refine ⟨_,rfl,fun f g=>?_⟩;simp (disch:=omega) only [ar]
theorem E6 (a:Nat)(ha:a<18446744073709551616:=by omega):aU .and .u64 (a:Int) 4294967295=((a%4294967296:Nat):Int):=by
 rw [aU,rv]
 have b:(BitVec.ofInt IntKind.u64.bits ((a:Nat):Int) &&& BitVec.ofInt IntKind.u64.bits 4294967295).toNat=a%4294967296:=by
  show (BitVec.ofInt 64 ((a:Nat):Int) &&& BitVec.ofInt 64 ((4294967295:Nat):Int)).toNat=_;rw [Qk4,Qk4,Ww7,Qj9,Qj9,Qx7 (by omega),Qx7 (by omega)];have:=Nat.and_two_pow_sub_one_eq_mod a 32;exact this
 rw [b];omega
theorem Ch (a b c d:Nat)(ha:a<4294967296)(hb:b<4294967296)(hc:c<4294967296)(hd:d<4294967296:=by omega) :
  a*c+(a*d+b*d / 4294967296) / 4294967296+((a*d+b*d / 4294967296)%4294967296+b*c) / 4294967296=(a*4294967296+b)*(c*4294967296+d) / 18446744073709551616 /\
  a*c<=18446744065119617025/\a*d<=18446744065119617025/\b*c<=18446744065119617025/\b*d<=18446744065119617025:=by
 have f:a*c<=4294967295*4294967295:=Qm1 (by omega) (by omega);have g:a*d<=4294967295*4294967295:=Qm1 (by omega) (by omega);have h:b*c<=4294967295*4294967295:=Qm1 (by omega) (by omega);have i:b*d<=4294967295*4294967295:=Qm1 (by omega) (by omega);have e:(a*4294967296+b)*(c*4294967296+d)=(a*c)*18446744073709551616+(a*d)*4294967296+(b*c)*4294967296+b*d:=by grind
 rw [e];generalize a*c=p at *;generalize a*d=q at *;generalize b*c=r at *;generalize b*d=s at *;refine ⟨by omega,by omega,by omega,by omega,by omega⟩
theorem Kg {V:View}(x y:Nat)(hx:x<18446744073709551616)(hy:y<18446744073709551616:=by omega) :
  aa prog 248 #[.int .u64 (x:Int),.int .u64 (y:Int)] V fun r V'=>r=.tuple #[.int .u64 ((x*y / 18446744073709551616:Nat):Int),.int .u64 ((x*y%18446744073709551616:Nat):Int)]:=by
 refine oC _ _ V _ ⟨by omega,by omega,by omega,by omega,by omega,fun v w=>?_⟩;have p:=Ch (x / 4294967296) (x%4294967296) (y / 4294967296) (y%4294967296) (by omega) (by omega) (by omega);rw [Nat.div_add_mod' x 4294967296,Nat.div_add_mod' y 4294967296] at p;obtain ⟨f,z,A,B,C⟩:=p;have e:u64.wrap ((x:Int)*y)=((x*y%18446744073709551616:Nat):Int):=by rw [rv];simp
 rw [e,E6 x hx,E6 y hy,lB,lB];rw [←f];have g:((x:Int) / 4294967296)*((y:Int) / 4294967296)=((x / 4294967296*(y / 4294967296):Nat):Int):=by simp
 have h:((x:Int) / 4294967296)*((y%4294967296:Nat):Int)=((x / 4294967296*(y%4294967296):Nat):Int):=by simp
 have i:((x%4294967296:Nat):Int)*((y:Int) / 4294967296)=((x%4294967296*(y / 4294967296):Nat):Int):=by simp
 have j:((x%4294967296:Nat):Int)*((y%4294967296:Nat):Int)=((x%4294967296*(y%4294967296):Nat):Int):=by simp
 rw [g,h,i,j];generalize x / 4294967296*(y / 4294967296)=a at *;generalize x / 4294967296*(y%4294967296)=b at *;generalize x%4294967296*(y / 4294967296)=c at *;generalize x%4294967296*(y%4294967296)=d at *;simp only [lB];have k:u64.wrap (d:Int)=d:=aM (by omega);have l:u64.wrap (b:Int)=b:=aM (by omega);have m:u64.wrap (c:Int)=c:=aM (by omega);have n:u64.wrap (a:Int)=a:=aM (by omega);rw [k,l,m,n];have o:u64.wrap ((b:Int)+d / 4294967296)=((b+d / 4294967296:Nat):Int):=by rw [aM (by omega)];omega
 rw [o,E6 _];have q:u64.wrap (((b+d / 4294967296)%4294967296:Nat)+(c:Int))=(((b+d / 4294967296)%4294967296+c:Nat):Int):=by rw [aM (by omega)];omega
 rw [q]
 have s:x*y / 18446744073709551616<18446744073709551616:=by
  have:x*y<18446744073709551616*18446744073709551616:=Qp2 hx hy;omega
 have t:u64.wrap ((a:Int)+((b+d / 4294967296:Nat):Int) / 4294967296)=((a+(b+d / 4294967296) / 4294967296:Nat):Int):=by
  rw [aM (by omega)];omega
 rw [t]
 have u:u64.wrap (((a+(b+d / 4294967296) / 4294967296:Nat):Int)+(((b+d / 4294967296)%4294967296+c:Nat):Int) / 4294967296)=((a+(b+d / 4294967296) / 4294967296+((b+d / 4294967296)%4294967296+c) / 4294967296:Nat):Int):=by
  rw [aM (by omega)];omega
 rw [u]
theorem Kb {V:View}(x y c:Nat)(hx:x<4294967296)(hy:y<4294967296)(hc:c<4294967296:=by omega) :
  aa prog 225 #[.int .u32 (x:Int),.int .u32 (y:Int),.int .u32 (c:Int)] V fun r V'=>r=.tuple #[.int .u32 (((x+y+c)%4294967296:Nat):Int),.int .u32 (((x+y+c) / 4294967296:Nat):Int)]:=by
 refine ow _ _ _ V _ ⟨by omega,fun d e=>?_⟩;simp (disch:=omega) only [aM,ij,lB];have a:((x:Int)+y+c)%4294967296=(((x+y+c)%4294967296:Nat):Int):=by omega
 have b:((x:Int)+y+c) / 4294967296%4294967296=(((x+y+c) / 4294967296:Nat):Int):=by omega
 rw [a,b]
theorem I6 (a b:Nat)(ha:a<4294967296)(hb:b<4294967296):aU .or .u64 (b:Int) ((a:Int)*4294967296)=(b:Int)+(a:Int)*4294967296:=by
 have h:aU .or .u64 (b:Int) ((a:Int)*4294967296)=aU .or .u64 ((a:Int)*4294967296) (b:Int):=by
  simp only [aU,BitVec.or_comm]
 rw [h,Cm a b ha hb];omega
theorem Py (b:Nat)(hb:b<4294967296):aU .or .u64 0 (b:Int)=b:=by
 have:=Cm 0 b (by omega) hb;simpa using this
theorem kH {V:View}{p:OA}{n c:Nat}{ds:List Nat}(h:RD V p n c ds)(hm:ds.length<=1099511627776:=by omega) :
  aa prog 193 #[.slice p n c] V fun r V'=>r=.tuple #[.int .u64 ((if val ds<18446744073709551616 then val ds else 0:Nat):Int),.bool (decide (val ds<18446744073709551616))]:=by
 refine C1 p n c V _ fun y q=>(aX (h.le q)).mono ?_;rintro r A B ⟨n,rfl,e⟩;rw [aQ h.cV] at e;generalize val ds=x at *;have C:=e.len;have D:(ai x).length<=2↔x<18446744073709551616:=aI (k:=2);refine ⟨_,_,_,rfl,fun a E F=>?_,fun a=>?_⟩
 ·have a:¬x<18446744073709551616:=by simp at a;omega
  rw [if_neg a,decide_eq_false a];rfl
 ·have m:x<18446744073709551616:=by simp at a;omega
  rw [if_pos m,decide_eq_true m];have G:n<=2:=by omega
  refine ⟨fun z V'=>0<=z.2/\z.2<=n/\z.1=(val ((ai x).take z.2.toNat):Int),fun z=>n-z.2.toNat,⟨(0,0),by (try dsimp only);and_intros<;>trivial,by (try dsimp only);omega,by (try dsimp only);omega,by simp⟩,?_⟩;rintro ⟨u,i⟩ H s ⟨d,f,hu⟩;dsimp only at d f hu ⊢;subst hu;obtain ⟨i,rfl⟩:=Qq7 d;simp only [Qq0];refine ⟨by trivial,fun b=>?_,fun b I J=>?_⟩
  ·have b:i<n:=by simpa using b
   refine (e.le s).rd i rfl (by omega) ?_;have o:=(aH x).get (i:=i) (by omega);simp (disch:=omega) only [ar];refine ⟨by omega,(_,_),?_,by (try dsimp only);and_intros<;>trivial,?_⟩
   ·(try dsimp only);omega
   ·(try dsimp only)
    refine ⟨by omega,by omega,?_⟩;have g:((i:Int)+1).toNat=i+1:=by omega
    rw [g,az _ _];have t:i=0\/i=1:=by omega
    rcases t with rfl|rfl
    ·simp (disch:=omega) only [aM];have j:(min ((32:Int)*((0:Nat):Int)).toNat IntKind.u64.bits)=0:=by decide
     rw [j];simp (disch:=omega) only [aM,Int.pow_zero,Int.mul_one,Qc2,dS,Nat.pow_zero,Qd2,Qy1];exact Py _ o
    ·have j:(min ((32:Int)*((1:Nat):Int)).toNat IntKind.u64.bits)=32:=by decide
     have a:0<(ai x).length:=by omega
     have l:=(aH x).get (i:=0) a;have v:(ai x).take 1=[(ai x)[0]]:=by rw [Qx8 a];rfl
     have w:((2:Int)^32)=4294967296:=by decide
     rw [j,v,w];simp (disch:=omega) only [aM];simp only [bq,dS,Qj3,Qy9];rw [I6 _ _ o l];omega
  ·have b:i=n:=by simp at b;omega
   subst b;rw [aq,ae]
theorem fN {V:View}{p:OA}{n c:Nat}{ds:List Nat}(h:RD V p n c ds)(hm:ds.length<=1099511627776) :
  aa prog 189 #[.slice p n c] V fun r V'=>r=.int .i64 (bj (val ds):Int):=by
 have k:=aW h.cV;refine CZ p n c V _ fun t l=>(aX (h.le l)).mono ?_;rintro r u v ⟨n,rfl,g⟩;rw [aQ h.cV] at g;generalize val ds=x at *;have m:=g.len;refine ⟨_,_,_,rfl,fun f w y=>?_,fun f=>?_⟩
 ·have:ai x=[]:=Qq6.1 (by simp at f;omega);have:=bd.1 this;subst this;rfl
 ·have f:0<n:=by simp at f;omega
  simp (disch:=omega) only [ar];refine g.rd (n-1) (by omega) (by omega) fun z A=>(fK _ ((aH x).get (by omega))).mono ?_;rintro r B C rfl;refine ⟨_,rfl,fun D E=>?_⟩;have F:=(aH x).get (i:=n-1) (by omega)
  have a:(ai x)[n-1]≠0:=by
   have:=(gG x).last (by omega);simpa [m] using this
  have G:bj (ai x)[n-1]<=32:=eI.2 (by omega);simp (disch:=omega) only [ar]
  have key:bj x=32*(n-1)+bj (ai x)[n-1]:=by
   have e:=fU (ai x) (n-1);rw [ae,Qx0 (by omega)] at e;simp only [dS,Qj3,Qy9] at e;have b:=eQ ((aH x).take (n-1));rw [Qw0,Qy5 (by omega)] at b;have j:(4294967296:Nat)^(n-1)=2^(32*(n-1)):=by rw [Qs0]
   rw [j] at e b;generalize (ai x)[n-1]=d at *;have o:=pF d;have q:=pE a;have s:0<bj d:=by unfold bj;rw [if_neg a];omega
   refine rR ?_ (.inr ?_)
   ·rw [Qy6];have:2^(32*(n-1))*(d+1)<=2^(32*(n-1))*2^bj d:=Qy4 _ o;rw [Qj1,Qk0] at this;omega
   ·rw [show 32*(n-1)+bj d-1=32*(n-1)+(bj d-1) from by omega,Qy6];have:2^(32*(n-1))*2^(bj d-1)<=2^(32*(n-1))*d:=Qy4 _ q;omega
  rw [key];congr 1;omega
theorem Ci {E S c t x y e Y B D:Nat}(h:E+B*D*c=S+B*x*Y)(ht:t=c+x*y+e) :
  E+B*D*(t%4294967296)+B*D*4294967296*(t / 4294967296)=S+B*D*e+B*x*(Y+D*y):=by
 have a:B*D*(t%4294967296)+B*D*4294967296*(t / 4294967296)=B*D*t:=by
  rw [Qz7 (B*D),←Qj1,Qg0]
 rw [Qj2,a,ht];grind
theorem fO {V:View}{p q:OA}{n c m e:Nat}{xa xb:List Nat}(ha:RD V p n c xa)(hb:RD V q m e xb)(hm:xa.length+xb.length<=1099511627776:=by omega) :
  aa prog 150 #[.slice p n c,.slice q m e] V fun r V'=>∃p' n' c',r=.slice p' n' c'/\RN V' p' n' c' (val xa*val xb):=by
 have la:=aW ha.cV;have lb:=aW hb.cV;refine EM p n c q m e V _ fun V1 M=>(aX (ha.le M)).mono ?_;rintro r V2 T ⟨n,rfl,o⟩;rw [aQ ha.cV] at o;refine ⟨_,_,_,rfl,fun V3 N=>(aX (hb.le (M.trans (T.trans N)))).mono ?_⟩;rintro r V4 U ⟨m,rfl,C⟩;rw [aQ hb.cV] at C
 replace o:=o.le (N.trans U)
 have W:=o.len;have zc:=C.len;have O:val xa=val (ai (val xa)):=(ae _).symm;have P:val xb=val (ai (val xb)):=(ae _).symm;rw [O,P];clear O P;generalize ai (val xa)=xs at *;generalize ai (val xb)=ys at *;refine ⟨_,_,_,rfl,?_⟩;simp (disch:=omega) only [ar,cE];have E:((n:Int)+m).toNat=n+m:=by omega
 rw [E]
 refine ⟨by omega,by omega,by omega,fun z V'=>0<=z.1/\z.1<=n/\∃es:List Nat,z.2=aG es/\es.length=n+m/\bK es /\
  val (es.take (z.1.toNat+m))=val (xs.take z.1.toNat)*val ys,fun z=>n-z.1.toNat,⟨(0,aG (List.replicate (n+m) 0)),by (try dsimp only);and_intros<;>trivial,by (try dsimp only);omega,by (try dsimp only);omega,_,rfl,by simp,bK.rep _,by simp [t_,Qp4]⟩,?_⟩
 rintro ⟨i,X⟩ V5 Q ⟨u,F,es,rfl,G,g,v⟩;dsimp only at u F v ⊢;obtain ⟨i,rfl⟩:=Qq7 u;simp only [Qq0] at v;refine ⟨by trivial,fun s=>?_,fun s=>?_⟩
 ·have s:i<n:=by simpa using s
  refine (o.le Q).rd i rfl (by omega) ?_;have y_:=o.cV.get (i:=i) (by omega)
  refine ⟨fun z V'=>0<=z.1/\z.1<=4294967295/\0<=z.2.1/\z.2.1<=m/\∃a:List Nat,z.2.2=aG a/\a.length=n+m/\bK a/\a.drop (i+z.2.1.toNat)=es.drop (i+z.2.1.toNat) /\
   val (a.take (i+z.2.1.toNat))+4294967296^(i+z.2.1.toNat)*z.1.toNat=val (es.take (i+z.2.1.toNat))+4294967296^i*xs[i]*val (ys.take z.2.1.toNat),fun z=>m-z.2.1.toNat,
   ⟨(0,0,aG es),by (try dsimp only);and_intros<;>trivial,by (try dsimp only);omega,by (try dsimp only);omega,by (try dsimp only);omega,by (try dsimp only);omega,es,rfl,G,g,rfl,by simp⟩,?_⟩
  rintro ⟨D,k,X⟩ Y R ⟨w,H,y,I,a,rfl,A,h,f,hw⟩;dsimp only at w H y I f hw ⊢;obtain ⟨k,rfl⟩:=Qq7 y;obtain ⟨D,rfl⟩:=Qq7 w;simp only [Qq0] at f hw;refine ⟨by trivial,fun d=>?_,fun d=>?_⟩
  ·have d:k<m:=by simpa using d
   refine (C.le (Q.trans R)).rd k rfl (by omega) ?_;have Z:=C.cV.get (i:=k) (by omega);have RW:=h.get (i:=i+k) (by omega)
   have J:a[i+k]'(by omega)=es[i+k]'(by omega):=by
    have S:a[i+k]?=es[i+k]?:=by
     have:=congrArg (fun l=>l[0]?) f;simpa [Qm2] using this
    rw [Qq1 (by omega),Qq1 (by omega)] at S;exact Qm5 S
   simp (disch:=omega) only [ar];have j:((i:Int)+k).toNat=i+k:=by omega
   rw [j];refine ⟨⟨by omega,by omega⟩,((a[i+k]'(by omega):Nat):Int),by rw [Qy1,Qk0];exact fB,⟨by omega,by omega⟩,by simp;omega,by omega,?_⟩;have a0:xs[i]*ys[k]<=4294967295*4294967295:=Qm1 (by omega) (by omega);have MN:(xs[i]:Int)*(ys[k]:Int)=((xs[i]*ys[k]:Nat):Int):=by simp
   obtain ⟨t,ht⟩:∃t:Nat,t=D+xs[i]*ys[k]+a[i+k]'(by omega):=⟨_,rfl⟩;rw [Qy6] at hw;have b:=Ci hw ht
   have e1:u64.wrap ((D:Int)+u64.wrap (u64.wrap (u64.wrap (xs[i]:Int)*u64.wrap (ys[k]:Int))+u64.wrap ((a[i+k]'(by omega):Nat):Int)))=(t:Int):=by
    clear b;generalize xs[i]*ys[k]=pq at *;rw [aM (x:=(xs[i]:Int)) (by omega),aM (x:=(ys[k]:Int)) (by omega),MN,aM (x:=((pq:Nat):Int)) (by omega)];simp (disch:=omega) only [aM];omega
   rw [e1,ij,lB];refine ⟨(_,_,_),?_,by (try dsimp only);and_intros<;>trivial,?_⟩
   ·(try dsimp only);omega
   ·(try dsimp only)
    have B:((k:Int)+1).toNat=k+1:=by omega
    refine ⟨by omega,by omega,by omega,by omega,a.set (i+k) (t%4294967296),?_,by simpa using A,h.set _ _ (by omega),?_,?_⟩
    ·rw [←bz];simp
    ·rw [B,Qv8 (by omega)];have:=congrArg (List.drop 1) f;simpa [Qm0,Qd7,Qj2,Qg1] using this
    ·rw [B,show i+(k+1)=i+k+1 from by omega,aL _ _ _,az es (i+k),az ys k,←J,Qz6];have e2:((t:Int) / 4294967296).toNat=t / 4294967296:=by omega
     rw [e2,Qy6,b]
  ·have d:k=m:=by simp at d;omega
   subst d;simp (disch:=omega) only [ar];have j:((i:Int)+k).toNat=i+k:=by omega
   rw [j];refine ⟨⟨by omega,by omega⟩,by simp;omega,(_,_),?_,by (try dsimp only);and_intros<;>trivial,?_⟩
   ·(try dsimp only);omega
   ·(try dsimp only)
    have K:((i:Int)+1).toNat=i+1:=by omega
    refine ⟨by omega,by omega,a.set (i+k) D,?_,by simpa using A,h.set _ _ (by omega),?_⟩
    ·rw [←bz,pW (by omega)];simp
    ·rw [K,show i+1+k=i+k+1 from by omega,aL _ _ _,hw,v,az xs i,aq (ds:=ys)];grind
 ·have s:i=n:=by simp at s;omega
  subst s;intro Y R bk L;refine (aX (RD.bI L g (n:=i+m) (c:=i+m) (by omega) (Qq3 _))).mono ?_;rintro r V7 l7 ⟨k,rfl,d⟩;refine ⟨_,_,_,rfl,fun _ V8 l8=>⟨_,_,_,rfl,?_⟩⟩;rw [aQ g] at d;rw [aq,aq] at v;rw [v] at d;exact d.le l8
theorem vL {x A d q r rest B W:Nat}(hA:A=d*B+rest)(h:d*q+r=rest*W+x):x+W*A=d*(q+W*B)+r:=by
 subst hA;grind
theorem BA {V:View}{p:OA}{n c:Nat}{xs:List Nat}(hx:RD V p n c xs)(hm:xs.length<=1099511627776)(d:Nat)(hd0:d≠0)(hd:d<4294967296) :
  aa prog 232 #[.slice p n c,.int .u32 (d:Int)] V fun r V'=>∃p' n' c',r=.tuple #[.slice p' n' c',.int .u32 ((val xs%d:Nat):Int)]/\RN V' p' n' c' (val xs / d):=by
 have w:=hx.len;refine AO p n c d V _ ⟨by omega,by omega,by omega,?_⟩;simp (disch:=omega) only [ar,aM,Qq0,cE]
 refine ⟨fun z V'=>0<=z.1/\z.1<d/\-1<=z.2.1/\z.2.1<n/\∃es:List Nat,z.2.2=aG es/\es.length=n/\bK es /\
   val (xs.drop (z.2.1+1).toNat)=d*val (es.drop (z.2.1+1).toNat)+z.1.toNat,fun z=>(z.2.1+1).toNat,
   ⟨(0,(n:Int)-1,aG (List.replicate n 0)),by (try dsimp only);and_intros<;>trivial,by (try dsimp only);omega,by (try dsimp only);omega,by (try dsimp only);omega,by (try dsimp only);omega,_,rfl,by simp,bK.rep _,?_⟩,?_⟩
 ·(try dsimp only)
  rw [Qx0 (by omega),Qx0 (by simp)];rfl
 rintro ⟨rest,i,G⟩ H x ⟨f,g,h,j,es,rfl,m,b,a⟩;dsimp only at f g h j a ⊢;obtain ⟨rest,rfl⟩:=Qq7 f;refine ⟨by trivial,fun e=>?_,fun e=>?_⟩
 ·have e:0<=i:=by simpa using e
  obtain ⟨i,rfl⟩:=Qq7 e;have o:((i:Int)+1).toNat=i+1:=by omega
  rw [o] at a;simp only [Qq0] at a;refine ⟨by omega,(hx.le x).rd i rfl (by omega) ?_⟩;have y:=hx.cV.get (i:=i) (by omega)
  have s:aU .or .u64 (u64.wrap ((rest:Int)*2^32)) (u64.wrap ((xs[i]:Nat):Int))=((rest*4294967296+xs[i]:Nat):Int):=by
   have A:((2:Int)^32)=4294967296:=by decide
   rw [A,aM (by omega),aM (by omega),Cm _ _ (by omega) y];omega
  rw [s]
  have t:((rest*4294967296+xs[i]:Nat):Int).tdiv (d:Int)=(((rest*4294967296+xs[i]) / d:Nat):Int):=by
   rw [Qk1 (by omega)];omega
  have B:((rest*4294967296+xs[i]:Nat):Int).tmod (d:Int)=(((rest*4294967296+xs[i])%d:Nat):Int):=by
   rw [Qz3 (by omega)];omega
  rw [t,B]
  have I:(rest*4294967296+xs[i]) / d<4294967296:=by
   rw [Qv0 (by omega)];have:rest+1<=d:=by omega
   have:=Qq9 4294967296 this;rw [Qn1 4294967296 d];omega
  have J:(rest*4294967296+xs[i])%d<d:=Qv9 _ (by omega);have C:=Qc6 (rest*4294967296+xs[i]) d;generalize (rest*4294967296+xs[i]) / d=q at *;generalize (rest*4294967296+xs[i])%d=r at *;simp (disch:=omega) only [aM,pW,ar];refine ⟨by omega,⟨by omega,by omega⟩,by simp;omega,by omega,?_⟩;refine ⟨((r:Int),(i:Int)-1,aG (es.set i q)),?_,?_,?_⟩
  ·(try dsimp only);omega
  ·(try dsimp only);and_intros<;>first|trivial|(rw [←bz];simp)
  ·(try dsimp only)
   refine ⟨by omega,by omega,by omega,by omega,_,rfl,by simpa using m,b.set _ _ (by omega),?_⟩;have u:((i:Int)-1+1).toNat=i:=by omega
   rw [u,Qw4 (by omega),Qw4 (l:=es.set i q) (by simp;omega),Qd9,Qv8 (by omega)];have D:xs[i]+4294967296*val (List.drop (i+1) xs)=d*(q+4294967296*val (List.drop (i+1) es))+r:=vL a C;rw [bq,bq,Qq0];exact D
 ·have e:i=-1:=by simp at e;omega
  subst e;simp only [Qq0] at a;have a:val xs=d*val es+rest:=by simpa using a
  intro K L M E;refine (aX (RD.bI E b (n:=n) (c:=n) (by omega) (Qq3 _))).mono ?_;rintro r N O ⟨k,rfl,v⟩;refine ⟨_,_,_,rfl,fun _ P F=>?_⟩;have s:val xs / d=val es:=by rw [a,Wx2 (by omega),Qj5 (by omega),Qy9]
  have t:val xs%d=rest:=by rw [a,Wx3,Qx7 (by omega)]
  rw [pW (by omega),s,t];rw [aQ b] at v;exact ⟨_,_,_,rfl,v.le F⟩
theorem El (a b:Nat)(ha:a<4294967296)(hb:b<4294967296:=by omega):aU .or .u32 (a:Int) (b:Int)=((a ||| b:Nat):Int):=by
 rw [aU,ij]
 have c:(BitVec.ofInt IntKind.u32.bits ((a:Nat):Int) ||| BitVec.ofInt IntKind.u32.bits (b:Int)).toNat=a ||| b:=by
  show (BitVec.ofInt 32 ((a:Nat):Int) ||| BitVec.ofInt 32 (b:Int)).toNat=_;rw [Qk4,Qk4,Wx1,Qj9,Qj9,Qx7 (by omega),Qx7 (by omega)]
 have d:a ||| b<2^32:=Wq8 (by omega) (by omega);rw [c];omega
theorem M_ {c m r:Nat}(h:c<2^r):c ||| m*2^r=c+m*2^r:=by
 rw [Nat.or_comm,←Ww6,←Qs4 h,Qd7]
theorem CD {d r c:Nat}(hd:d<4294967296)(hr:r<32)(hc:c<2^r) :
  c ||| (d*2^r%4294967296)=c+d*2^r%4294967296/\c+d*2^r%4294967296<4294967296/\d*2^r / 4294967296<2^r/\d*2^r<18446744073709551616:=by
 have e:4294967296=2^(32-r)*2^r:=by rw [←Qy6,Qv4 (by omega)]
 have a:d*2^r%4294967296=(d%2^(32-r))*2^r:=by
  rw [e,Nat.mul_mod_mul_right]
 have f:d%2^(32-r)+1<=2^(32-r):=Qv9 _ (Qz4 _);have b:=Qq9 (2^r) f;have h:2^r<=2^31:=Qw9 (by omega) (by omega);have g:d*2^r<4294967296*2^r:=Qm6 hd (Qz4 _);refine ⟨by rw [a,M_ hc],?_,?_,by omega⟩
 ·rw [a];rw [Qj4,Qd2] at b;rw [←e] at b;omega
 ·rw [Qv0 (by omega),Qn1 (2^r)];exact g
theorem yJ {V:View}{p:OA}{n c:Nat}{ds:List Nat}(h:RD V p n c ds)(hm:ds.length<=1099511627776)(k:Nat)(hk:k<=1048576:=by omega) :
  aa prog 246 #[.slice p n c,.int .u64 (k:Int)] V fun r V'=>∃p' n' c',r=.slice p' n' c'/\RN V' p' n' c' (val ds*2^k)/\(val ds=0\/c'=(ai (val ds)).length+k / 32+1):=by
 have G:=aW h.cV;refine EN p n c k V _ fun Y H=>(aX (h.le H)).mono ?_;rintro r Z l2 ⟨n,rfl,o⟩;rw [aQ h.cV] at o;generalize hxv:val ds=x at *;have hl:=o.len;refine ⟨_,_,_,rfl,fun m V3 l3=>?_,fun m=>?_⟩
 ·have:ai x=[]:=Qq6.1 (by simp at m;omega);have:=bd.1 this;subst this;rw [Qd8];exact ⟨_,_,_,rfl,RD.nil,.inl rfl⟩
 ·have m:0<n:=by simp at m;omega
  have C:bP (k:Int) 1048576=k:=by unfold bP;rw [if_neg (by omega)]
  have D:(k:Int).tdiv 32=((k / 32:Nat):Int):=by rw [Qk1 (by omega)];omega
  have E:(k:Int).tmod 32=((k%32:Nat):Int):=by rw [Qz3 (by omega)];omega
  rw [C,D,E]
  have q:x*2^k=4294967296^(k / 32)*x*2^(k%32):=by
   have:2^k=4294967296^(k / 32)*2^(k%32):=by
    rw [show (4294967296:Nat)=2^32 from rfl,←Qs0,←Qy6,Qc6]
   rw [this];grind
  rw [q];generalize hw:k / 32=w at *;have s:k%32<32:=Qv9 _ (by omega);have I:w<=32768:=by omega
  generalize k%32=r at *;clear C D E;simp (disch:=omega) only [ar,aM,cE];have t:((n:Int)+w+1).toNat=n+w+1:=by omega
  rw [t]
  refine ⟨by omega,by omega,by omega,by omega,by omega,fun z V'=>0<=z.1/\z.1<=n/\∃es:List Nat,z.2=aG es/\es.length=n+w+1/\bK es/\(∀c,es[z.1.toNat+w]?=some c->c<2^r) /\
   val (es.take (z.1.toNat+w+1))=4294967296^w*val ((ai x).take z.1.toNat)*2^r,fun z=>n-z.1.toNat,
   ⟨(0,aG (List.replicate (n+w+1) 0)),by (try dsimp only);and_intros<;>trivial,by (try dsimp only);omega,by (try dsimp only);omega,_,rfl,by simp,bK.rep _,?_,?_⟩,?_⟩
  ·intro c a;rw [Qp8] at a;split at a
   ·cases a;exact Qz4 r
   ·cases a
  ·simp [Qp4,t_]
  rintro ⟨i,vs⟩ V4 J ⟨f,u,es,rfl,v,b,a,d⟩;dsimp only at f u a d ⊢;obtain ⟨i,rfl⟩:=Qq7 f;simp only [Qq0] at a d;refine ⟨by trivial,fun e=>?_,fun e=>?_⟩
  ·have e:i<n:=by simpa using e
   refine (o.le J).rd i rfl (by omega) ?_;have K:=(aH x).get (i:=i) (by omega);have y:=a (es[i+w]'(by omega)) (Qq1 _);obtain ⟨L,g2,M,g4⟩:=CD K s y
   have g:(min ((r:Nat):Int).toNat IntKind.u64.bits)=r:=by
    show min _ 64=r;omega
   have N:((2:Int)^r)=((2^r:Nat):Int):=by simp
   rw [g,N];have hmul:(((ai x)[i]:Nat):Int)*((2^r:Nat):Int)=(((ai x)[i]*2^r:Nat):Int):=by simp
   simp (disch:=omega) only [ar];rw [aM (x:=(((ai x)[i]:Nat):Int)) (by omega),hmul,aM (by omega),ij,lB];have A:((i:Int)+w).toNat=i+w:=by omega
   have O:((i:Int)+w+1).toNat=i+w+1:=by omega
   rw [A,O];refine ⟨by omega,⟨by omega,by omega⟩,((es[i+w]'(by omega):Nat):Int),by rw [Qy1,Qk0];exact fB,⟨by omega,by omega⟩,by simp;omega,by omega,⟨by omega,by omega⟩,by simp;omega,?_⟩;have P:(((ai x)[i]*2^r:Nat):Int)%4294967296=(((ai x)[i]*2^r%4294967296:Nat):Int):=by omega
   have Q:(((ai x)[i]*2^r:Nat):Int) / 4294967296=(((ai x)[i]*2^r / 4294967296:Nat):Int):=by omega
   rw [P,Q,El _ _ (by omega),L];have R:=Qg0 ((ai x)[i]*2^r) 4294967296;have S:(ai x)[i]*2^r / 4294967296<4294967296:=by omega
   have B:val (List.take (i+1) (ai x))=val (List.take i (ai x))+4294967296^i*(ai x)[i]:=az _ _;have T:val (es.take (i+w+1))=val (es.take (i+w))+4294967296^(i+w)*es[i+w]'(by omega):=az _ _;generalize (ai x)[i]*2^r%4294967296=lo at *;generalize hhi:(ai x)[i]*2^r / 4294967296=hi at *;rw [pW (by omega)];refine ⟨((i:Int)+1,aG ((es.set (i+w) (es[i+w]'(by omega)+lo)).set (i+w+1) hi)),?_,?_,?_⟩
   ·(try dsimp only);omega
   ·(try dsimp only);and_intros<;>first|trivial|(rw [←bz,←bz];simp)
   ·(try dsimp only)
    have j:((i:Int)+1).toNat=i+1:=by omega
    refine ⟨by omega,by omega,_,rfl,by simpa using v,(b.set _ _ (by omega)).set _ _ (by omega),?_,?_⟩
    ·intro c l;rw [j,show i+1+w=i+w+1 from by omega,List.getElem?_set_self (by simp;omega)] at l;cases l;exact M
    ·rw [j,show i+1+w+1=i+w+1+1 from by omega,aL _ _ _ (by simp;omega),aL _ _ _,B];rw [T] at d;have U:4294967296^(i+w+1)*hi=4294967296^(i+w)*(4294967296*hi):=by rw [Qz6];grind
     rw [U,Qj1,←Qj2,d,Qj2,←Qj1,R,Qy6];grind
  ·have e:i=n:=by simp at e;omega
   subst e;intro V5 l5 bk W;refine (aX (RD.bI W b (n:=i+w+1) (c:=i+w+1) (by omega) (Qq3 _))).mono ?_;rintro r' V6 l6 ⟨k',rfl,F⟩;refine ⟨_,_,_,rfl,fun _ V7 X=>⟨_,_,_,rfl,?_,.inr (by omega)⟩⟩;rw [aq,aq,ae] at d;rw [aQ b,d] at F;exact F.le X
theorem CE {d Y r:Nat}(hd:d<4294967296)(hr:r<32) :
  (d+4294967296*Y) / 2^r=(d+4294967296*(Y%4294967296)) / 2^r%4294967296+4294967296*(Y / 2^r):=by
 have e:4294967296=2^r*2^(32-r):=by rw [←Qy6,Nat.add_sub_cancel' (by omega)]
 have c:=Qz4 r;have l:=Qz4 (32-r);generalize ha:2^r=a at *;generalize hb:2^(32-r)=b at *
 have f:∀Z,(d+4294967296*Z) / a=d / a+b*Z:=by
  intro Z;rw [e,Qz7,Qf6 _ _ c]
 rw [f,f]
 have g:d / a<b:=by
  rw [Qv0 c,Qn1,←e];exact hd
 have h:b*(Y%4294967296)%4294967296=b*(Y%a):=by
  rw [e,Qn1 a b,Nat.mul_mod_mul_left,Nat.mod_mul_left_mod]
 have m:b*(Y%a)+b<=4294967296:=by
  have:Y%a+1<=a:=Qv9 _ c;have:=Qy4 b this;rw [Qj1,Qk0,Qn1 b a,←e] at this;exact this
 have i:(d / a+b*(Y%4294967296))%4294967296=d / a+b*(Y%a):=by
  rw [Nat.add_mod,h,Qx7 (a:=d / a) (by omega),Qx7 (by omega)]
 rw [i];have j:=Qg0 Y a
 have k:b*Y=b*(Y%a)+4294967296*(Y / a):=by
  conv=>lhs;rw [←j]
  rw [Qj1,←Qz7,Qn1 b a,←e]
 rw [k];omega
theorem pX {xs:List Nat}(h:bK xs)(i:Nat):val (xs.drop i)%4294967296=(xs[i]?).getD 0:=by
 rcases Qy8 i xs.length with a|a
 ·rw [Qw4 a,bq,Qq1 a,Qm9,Wq4,Qx7 (h.get a)]
 ·rw [Qx0 a,Qj6 a];rfl
theorem F9 {V:View}{p:OA}{n c:Nat}{ds:List Nat}(h:RD V p n c ds)(hm:ds.length<=1099511627776)(k:Nat)(hk:k<18446744073709551616:=by omega) :
  aa prog 247 #[.slice p n c,.int .u64 (k:Int)] V fun r V'=>∃p' n' c',r=.slice p' n' c'/\RN V' p' n' c' (val ds / 2^k):=by
 have T:=aW h.cV;refine EO p n c k V _ fun V1 U=>(aX (h.le U)).mono ?_;rintro r V2 l2 ⟨n,rfl,B⟩;rw [aQ h.cV] at B;generalize val ds=x at *;have hl:=B.len;have P:(k:Int).tdiv 32=((k / 32:Nat):Int):=by rw [Qk1 (by omega)];omega
 have C:(k:Int).tmod 32=((k%32:Nat):Int):=by rw [Qz3 (by omega)];omega
 refine ⟨_,_,_,rfl,?_⟩;rw [P,C]
 have q:x / 2^k=x / 4294967296^(k / 32) / 2^(k%32):=by
  rw [Nat.div_div_eq_div_mul,show (4294967296:Nat)=2^32 from rfl,←Qs0,←Qy6,Qc6]
 rw [q];have W:k / 32<576460752303423488:=by omega
 generalize k / 32=w at *;have E:k%32<32:=Qv9 _ (by omega);generalize k%32=r at *;clear P C q;refine ⟨by omega,fun j V3 l3=>?_,fun j=>?_⟩
 ·have j:n<=w:=by
   rw [aM (by omega),aM (by omega)] at j;simp at j;omega
  have:x / 4294967296^w=0:=Qj5 (Qx2 (aI.1 (Qq3 _)) (Qw9 (by omega) (by omega)));rw [this,Wx4];exact ⟨_,_,_,rfl,RD.nil⟩
 ·have j:w<n:=by
   rw [aM (by omega),aM (by omega)] at j;simp at j;omega
  simp (disch:=omega) only [ar,aM,cE];have F:((n:Int)-w).toNat=n-w:=by omega
  rw [F]
  have G:x / 4294967296^w=val ((ai x).drop w):=by
   have e:val (ai x)=val ((ai x).take w++(ai x).drop w):=by rw [Qk5]
   have s:=eQ ((aH x).take w);rw [cU,ae] at e;rw [Qw0,Qy5 (by omega)] at e s
   have g:∀y,y=val ((ai x).take w)+4294967296^w*val ((ai x).drop w)->y / 4294967296^w=val ((ai x).drop w):=by
    intro y X;rw [X,Qf6 _ _ (Qp5 (by omega)),Qj5 s,Qy1]
   exact g x e
  rw [G]
  refine ⟨by omega,by omega,by omega,by omega,by omega,fun z V'=>0<=z.1/\z.1<=(n-w:Nat)/\∃es:List Nat,z.2=aG es/\es.length=n-w/\bK es /\
   val (es.take z.1.toNat)+4294967296^z.1.toNat*(val ((ai x).drop (w+z.1.toNat)) / 2^r)=val ((ai x).drop w) / 2^r,fun z=>(n-w)-z.1.toNat,
   ⟨(0,aG (List.replicate (n-w) 0)),by (try dsimp only);and_intros<;>trivial,by (try dsimp only);omega,by (try dsimp only);omega,_,rfl,by simp,bK.rep _,by simp⟩,?_⟩
  rintro ⟨i,vs⟩ V4 Q ⟨t,H,es,rfl,I,m,b⟩;dsimp only at t H b ⊢;obtain ⟨i,rfl⟩:=Qq7 t;simp only [Qq0] at b;refine ⟨by trivial,fun u=>?_,fun u=>?_⟩
  ·have u:i<n-w:=by simpa using u
   simp (disch:=omega) only [ar];refine (B.le Q).rd (w+i) (by omega) (by omega) ?_;have R:=(aH x).get (i:=w+i) (by omega);have v:=CE (Y:=val ((ai x).drop (w+i+1))) R E;rw [pX (aH x)] at v
   have d:(min ((r:Nat):Int).toNat IntKind.u64.bits)=r:=by
    show min _ 64=r;omega
   have o:val ((ai x).drop (w+i))=(ai x)[w+i]+4294967296*val ((ai x).drop (w+i+1)):=by
    rw [Qw4 (by omega),bq]
   rw [o] at b;rw [v] at b
   have S:∀D:Nat,D=((ai x)[w+i]+4294967296*((ai x)[w+i+1]?).getD 0) / 2^r%4294967296 ->
     ∃a:List Nat,(aG es).set (0+i*1) (.int .u32 (D:Int))=aG a/\a.length=n-w/\bK a /\
     val (a.take (i+1))+4294967296^(i+1)*(val ((ai x).drop (w+(i+1))) / 2^r)=val ((ai x).drop w) / 2^r:=by
    intro D Z;refine ⟨es.set i D,by rw [←bz];simp,by simpa using I,m.set _ _ (by omega),?_⟩;rw [aL _ _ _,←b,Z,Qz6,Qj1,Qj2,Qz7,Qj2 w i 1]
   have A:((i:Int)+1).toNat=i+1:=by omega
   refine ⟨fun f=>?_,fun f=>?_⟩
   ·have f:w+i+1<n:=by simp at f;omega
    refine (B.le Q).rd (w+i+1) (by omega) (by omega) ?_;have J:=(aH x).get (i:=w+i+1) (by omega)
    have K:aU .or .u64 (u64.wrap (((ai x)[w+i]:Nat):Int)) (u64.wrap (u64.wrap (((ai x)[w+i+1]:Nat):Int)*2^32))=(((ai x)[w+i]+4294967296*((ai x)[w+i+1]?).getD 0:Nat):Int):=by
     have C:((2:Int)^32)=4294967296:=by decide
     rw [C,aM (by omega),aM (x:=(((ai x)[w+i+1]:Nat):Int)) (by omega),aM (by omega),I6 _ _ J R,Qq1 (by omega),Qm9];omega
    rw [K,d,fu,ij];refine ⟨by omega,by omega,⟨by omega,by omega⟩,by simp;omega,?_⟩;obtain ⟨a,L,M,N,O⟩:=S _ rfl;refine ⟨((i:Int)+1,aG a),?_,?_,?_⟩
    ·(try dsimp only);omega
    ·(try dsimp only);and_intros<;>first|trivial|(rw [←L];simp)
    ·(try dsimp only)
     exact ⟨by omega,by omega,a,rfl,M,N,by rw [A];exact O⟩
   ·have f:n<=w+i+1:=by simp at f;omega
    have K:u64.wrap (((ai x)[w+i]:Nat):Int)=(((ai x)[w+i]+4294967296*((ai x)[w+i+1]?).getD 0:Nat):Int):=by
     rw [aM (by omega),Qj6 (by omega)];simp
    rw [K,d,fu,ij];refine ⟨by omega,⟨by omega,by omega⟩,by simp;omega,?_⟩;obtain ⟨a,L,M,N,O⟩:=S _ rfl;refine ⟨((i:Int)+1,aG a),?_,?_,?_⟩
    ·(try dsimp only);omega
    ·(try dsimp only);and_intros<;>first|trivial|(rw [←L];simp)
    ·(try dsimp only)
     exact ⟨by omega,by omega,a,rfl,M,N,by rw [A];exact O⟩
  ·have u:i=n-w:=by simp at u;omega
   intro V5 l5 bk hb;refine (aX (RD.bI hb m (n:=n-w) (c:=n-w) (by omega) (Qq3 _))).mono ?_;rintro r' V6 l6 ⟨k',rfl,f⟩;refine ⟨_,_,_,rfl,fun _ V7 l7=>⟨_,_,_,rfl,?_⟩⟩;rw [aq,Qx0 (l:=ai x) (i:=w+i) (by omega)] at b
   have b:val es=val ((ai x).drop w) / 2^r:=by
    rw [←b,dS,Wx4,Qj3,Qy9]
   rw [aQ m,b] at f;exact f.le l7
end Go.Proofs.Tryz
namespace Go.Big
theorem Gv {v1 v2 v' u0 u1 u2 t' B W G ρ T Y:Nat}(hY:Y=(v1*W+v2)*B+v')(hT:T=((u0*W+u1)*W+u2)*B+t')(ht:t'<B)
  (hg:G*v1+ρ=u0*W+u1)(hd:ρ*W+u2<G*v2):T<G*Y:=by
 have a:(u0*W+u1)*W+u2+1<=G*(v1*W+v2):=by
  rw [←hg,Qj1,Qj4,←Qz7];omega
 have b:=Qq9 B a;have c:G*(v1*W+v2)*B<=G*Y:=by rw [hY,Qz7];exact Qy4 _ (Nat.le_add_right _ _)
 rw [Qj4,Qd2] at b;omega
theorem yY {v1 v2 v' u0 u1 u2 t' B W G ρ T Y:Nat}(hY:Y=(v1*W+v2)*B+v')(hT:T=((u0*W+u1)*W+u2)*B+t')(hv:v'<B)(hv1:1<=v1)(hW:0<W)
  (hg:G*v1+ρ=u0*W+u1)(hd:G*v2<=ρ*W+u2)(hG:G<=W:=by omega):G*Y<T+Y:=by
 have a:G*(v1*W+v2)<=(u0*W+u1)*W+u2:=by
  rw [←hg,Qj1,Qj4,←Qz7];omega
 have d:=Qq9 B a;have e:G*v'<=W*v':=Qq9 _ hG;have f:W*v'<W*B:=Nat.mul_lt_mul_of_pos_left hv hW
 have g:W*B<=v1*W*B:=by
  have:=Qq9 (W*B) hv1;rw [Qd2,←Qz7] at this;exact this
 have b:(v1*W+v2)*B=v1*W*B+v2*B:=Qj4 _ _ _;have c:G*Y=G*(v1*W+v2)*B+G*v':=by rw [hY,Qj1,Qz7]
 rw [c,hY,b];omega
theorem yZ {v1 v2 v' u0 u1 u2 t' B W T Y:Nat}(hY:Y=(v1*W+v2)*B+v')(hT:T=((u0*W+u1)*W+u2)*B+t')(hv:v'<B)(h:T<W*Y):u0*W+u1<=v1*W+v2:=by
 rcases Qy8 (v1*W+v2) (u0*W+u1) with a|a
 ·exfalso;have b:(v1*W+v2+1)*W<=(u0*W+u1)*W:=Qq9 _ a;have c:=Qq9 B b
  have d:W*Y<=W*((v1*W+v2+1)*B):=by
   rw [hY,Qj4 (v1*W+v2) 1 B,Qd2];exact Qy4 _ (by omega)
  have e:W*((v1*W+v2+1)*B)=(v1*W+v2+1)*W*B:=by grind
  have f:(u0*W+u1)*W*B<=T:=by rw [hT,Qj4 ((u0*W+u1)*W) u2 B];omega
  omega
 ·exact a
theorem Ie {v1 v2 v' u0 u1 u2 t' B W G ρ T Y:Nat}(hY:Y=(v1*W+v2)*B+v')(hT:T=((u0*W+u1)*W+u2)*B+t')(ht:t'<B)(hu:u2<W)
  (hg:G*v1+ρ=u0*W+u1)(hr:ρ<v1):T<(G+1)*Y:=by
 have a:u0*W+u1+1<=(G+1)*v1:=by rw [Qj4,Qd2];omega
 have d:=Qq9 (W*B) a
 have e:(G+1)*v1*(W*B)<=(G+1)*Y:=by
  rw [hY,Qz7];refine Qy4 _ ?_;rw [←Qz7,Qj4];omega
 have f:((u0*W+u1)*W+u2)*B+t'<(u0*W+u1+1)*(W*B):=by
  have b:(u2+1)*B<=W*B:=Qq9 _ hu;rw [Qj4,Qd2] at b;have c:(u0*W+u1+1)*(W*B)=(u0*W+u1)*W*B+W*B:=by grind
  rw [c,Qj4 ((u0*W+u1)*W) u2 B];omega
 omega
theorem zv {F U c b g d u Y W S:Nat}{x:Int}(h:F+W*(g*Y)=U+W*S*(c+b))(hc:c<4294967296)(hb:b<=1)(hu:u<4294967296)
  (hx:x=((u:Int)-((c+g*d)%4294967296:Nat)-b)%18446744073709551616) :
  0<=x/\0<=x / 9223372036854775808/\x / 9223372036854775808<=1 /\
  F+W*S*(x%4294967296).toNat+W*(g*(Y+S*d))=U+W*S*u+W*(S*4294967296)*((c+g*d) / 4294967296+(x / 9223372036854775808).toNat):=by
 have n:=Qg0 (c+g*d) 4294967296;have hm:(c+g*d)%4294967296<4294967296:=Qv9 _ (by omega);generalize (c+g*d) / 4294967296=q at *;generalize (c+g*d)%4294967296=m at *
 have key:∃o B:Nat,(x%4294967296).toNat=o/\(x / 9223372036854775808).toNat=B/\u+4294967296*B=o+m+b/\0<=x/\0<=x / 9223372036854775808/\x / 9223372036854775808<=1:=by
  refine ⟨_,_,rfl,rfl,?_,by omega,by omega,by omega⟩;omega
 obtain ⟨o,B,a,e,p,f,i,j⟩:=key;refine ⟨f,i,j,?_⟩;rw [a,e];have k:u+4294967296*(B+q)=o+b+(c+g*d):=by omega
 have l:W*S*u+W*(S*4294967296)*(q+B)=W*S*(u+4294967296*(B+q)):=by grind
 rw [Qj2 U,l,k];grind
theorem yv {F U c d u Y W S t:Nat}(h:F+W*S*c=U+W*Y)(ht:t=c+u+d:=by omega) :
  F+W*S*(t%4294967296)+W*(S*4294967296)*(t / 4294967296)=U+W*S*u+W*(Y+S*d):=by
 have a:W*S*(t%4294967296)+W*(S*4294967296)*(t / 4294967296)=W*S*t:=by
  have:=Qg0 t 4294967296;have e:W*(S*4294967296)*(t / 4294967296)=W*S*(4294967296*(t / 4294967296)):=by grind
  rw [e,←Qj1,this]
 rw [Qj2,a,ht];grind
end Go.Big
