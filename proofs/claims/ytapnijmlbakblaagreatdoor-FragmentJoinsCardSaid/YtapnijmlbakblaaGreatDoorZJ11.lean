import Derived.Test.YtapnijmlbakblaaGreatDoorZJ6
import Derived.Test.YtapnijmlbakblaaGreatDoorCards
import Derived.Test.YtapnijmlbakblaaGreatDoorTie
import Derived.WalkKit
import Derived.ProofKit
import Derived.OpenShut
import Derived.Deep.DeepHandedRow
import Derived.LaidLaws
import Derived.Lay
import Derived.Carry
import Derived.IntWalk
import Derived.Test.YtapnijmlbakblaaGreatDoorZJ7
set_option linter.unusedVariables false
open Go.IntKind (i64 u64 u32)
namespace Go.Proofs.YtapnijmlbakblaaGreatDoor
open Go.ChangeShapes Go.WideShapes Go.ChangeAt Go.RowKit Go.Eng
theorem own:ownKnob Tryz.prog.godebug=none:=by kernel_rfl
def View.all (W:World):View:=⟨W,fun _=>False,fun _=>False,fun _ h=>h.elim,fun _ h=>h⟩
theorem B5 {w w':World}(h:gV (fun _=>False) w w')(may:MemPlace->Prop):w.keptBut w' may:=by
 refine ⟨h.os,h.out,fun i a=>?_⟩;rw [h.bB i a (fun h=>h)]
 cases w.heap[i]? with
 | none=>rfl
 | some o=>cases o<;>simp
theorem xl {f:FuncId}{args:Array Value}{W:World}{R:Value->Prop}(h:aa Tryz.prog f args (View.all W) fun r _=>R r):Calls Tryz.prog f args W fun e w'=>∃r,e=.returned r/\R r/\gV (fun _=>False) W w':=
 h.2.mono fun e w' ⟨r,he,a,b⟩=>⟨r,he,b,a⟩
theorem laidOut:laidOutB Tryz.prog=true:=by kernel_rfl
theorem zH {w w':World}(h:gV (fun _=>False) w w'):Below w.heap.size w w':=⟨h.os,h.tape,h.out,h.size,fun k a=>h.bB k a (fun h=>h)⟩
theorem FU {P:Program}(hlo:laidOutB P=true){H:Type}{enc:TypeId×Value->H}{W W':World}(hb:Below W.heap.size W W')(ts:List TypeId):∀{vs:List Value} {ds:List (DataW H)} {ps:List MemPlace},
  (ts.all fun t=>P.readableRec t&&decide (t<P.types.size))=true->DataW.TrodAll enc P W 0 (fun _=>true) true ts vs ds ps->(∀x∈ps,x.block<W.heap.size) ->
   DataW.TrodAll enc P W' 0 (fun b=>decide (b<W.heap.size)) true ts vs ds ps:=by
 induction ts with
 | nil=>
  intro vs ds ps _ h _;obtain ⟨rfl,rfl,rfl⟩:=trodAll_nil h;exact trodAll_mk0
 | cons t ts ih=>
  intro vs ds ps c h a;obtain ⟨v,f,d,g,p,q,rfl,rfl,rfl,i,j⟩:=trodAll_cons h;simp only [List.all_cons,Qx5,decide_eq_true_eq] at c;exact trodAll_cons_mk (Below.trod hlo c.1.1 c.1.2 i hb fun x e=>a x (Qj2 _ e)) (ih c.2 j fun x e=>a x (Qn4 _ e))
set_option maxRecDepth 100000 in
theorem Kp {H:Type}{enc:TypeId×Value->H}{Uz:FuncId}{f:Func}{s:ChangeSpec}{W:World}{args:Array Value}{ds gs:List (DataW H)}{before:List MemPlace}{fresh handsOn:Bool}
  (hW:DataW.Whole enc Tryz.prog f.params.toList s.vars false W args.toList ds gs before)(hvars:s.vars=[])(hts:(f.params.toList.all fun t=>Tryz.prog.readableRec t&&decide (t<Tryz.prog.types.size))=true)
  (hres:f.resultTypes=#[4])(hs:s.fn H (ds++gs)={ results:=[.lit (.bool true)],args:=ds })
  (h:aa Tryz.prog Uz args (View.all W) fun r _=>r=.bool true):Calls Tryz.prog Uz args W fun e W'=>∃v,e=.returned v/\s.post enc Tryz.prog f false fresh handsOn false W args v W':=by
 refine (xl h).mono fun e W' ⟨r,he,g,a⟩=>?_;subst he g;have b:=hW;obtain ⟨p,q,i,d,rfl,-,-⟩:=hW;rw [hvars] at d;obtain ⟨rfl,rfl⟩:=trodVars_none d;have c:∀x∈p++[],x.block<W.heap.size:=fun x a=>b.lt x a;refine ⟨_,rfl,ds,_,p++[],[],p++[],[],b,?_,?_,?_,B5 a _,fun h=>nomatch h⟩
 ·rw [hs,hres];exact trodAll_cons_mk (shut_bool Tryz.underlying4 _) trodAll_mk0
 ·rw [hs,Qz5];exact FU laidOut (zH a) _ hts i fun x a=>c x (by rw [Qz5];exact a)
 ·rw [hs,hvars];rfl
set_option maxRecDepth 100000 in
theorem Cu {H:Type}{enc:TypeId×Value->H}{W:World}{p:OA}{n c:Nat}{d:DataW H}{ps:List MemPlace}
  (h:DataW.Trod enc Tryz.prog W 0 (fun _=>true) true 22 (.slice p n c) d ps):n<=c/\∀i,i<n->∃(a:Addr)(x:Int),ah p (i*1)=some a/\(View.all W).at a (.int .i64 x):=by
 obtain ⟨fuel,k⟩:=h;rcases open_ints Tryz.underlying22 Tryz.underlying3 (show Tryz.prog.cellsOf 3=1 by kernel_rfl) k with ⟨b,-⟩|⟨a,f,g,o,b,_,l,-,m,-,e,-⟩
 ·simp [Value.cells] at b;obtain ⟨rfl,rfl,rfl⟩:=b;exact ⟨Qq3 _,fun i j=>absurd j (by omega)⟩
 ·simp [Value.cells] at b;obtain ⟨rfl,rfl,rfl⟩:=b;simp only [if_true] at m;exact ⟨l,fun i j=>⟨a.add i,_,by rw [Qk8];rfl,fun h=>h,e i (by omega)⟩⟩
end Go.Proofs.YtapnijmlbakblaaGreatDoor
namespace Go.Big
def val:List Nat->Nat
 | []=>0
 | d::r=>d+4294967296*val r
def bP (ds:List Nat):Prop:=∀d∈ds,d<4294967296
def bW:List Nat->List Nat
 | []=>[]
 | d::r=>if bW r=[]/\d=0 then [] else d::bW r
def sj (ds:List Nat):Prop:=bW ds=ds
def ux:Nat->Nat->List Nat
 | 0,_=>[]
 | f+1,n=>if n=0 then [] else n%4294967296::ux f (n / 4294967296)
def ai (n:Nat):List Nat:=ux n n
@[simp] theorem dL:val []=0:=rfl
@[simp] theorem bg (d:Nat)(r:List Nat):val (d::r)=d+4294967296*val r:=rfl
theorem bP.nil:bP []:=fun _ h=>nomatch h
theorem bP.cons {d:Nat}{r:List Nat}:bP (d::r)↔d<4294967296/\bP r:=by simp [bP]
theorem bP.append {a b:List Nat}:bP (a++b)↔bP a/\bP b:=by simp [bP,or_imp,forall_and]
theorem bP.take {a:List Nat}(h:bP a)(k:Nat):bP (a.take k):=fun d b=>h d (Qb7 b)
theorem bP.drop {a:List Nat}(h:bP a)(k:Nat):bP (a.drop k):=fun d b=>h d (Qd5 b)
theorem bP.set {a:List Nat}(h:bP a)(k x:Nat)(hx:x<4294967296):bP (a.set k x):=fun d c=>by
 rcases List.mem_or_eq_of_mem_set c with b|b
 ·exact h d b
 ·exact b▸hx
theorem bP.get {a:List Nat}(h:bP a){i:Nat}(hi:i<a.length):a[i]<4294967296:=h _ (Qw7 hi)
theorem bP.rep (n:Nat):bP (List.replicate n 0):=fun d a=>by rw [Qg4 a];omega
theorem cR (a b:List Nat):val (a++b)=val a+4294967296^a.length*val b:=by
 induction a with
 | nil=>simp
 | cons d r ih=>simp only [Qf1,bg,ih,Qx2,Qk0];grind
theorem fE {ds:List Nat}(h:bP ds):val ds<4294967296^ds.length:=by
 induction ds with
 | nil=>simp
 | cons d r ih=>
  have a:=bP.cons.1 h;have:=ih a.2;have c:=a.1;simp only [bg,Qx2,Qk0];have b:val r+1<=4294967296^r.length:=this;have e:=Qy6 4294967296 b;omega
theorem tM (n:Nat):val (List.replicate n 0)=0:=by
 induction n with
 | zero=>rfl
 | succ n ih=>simp [Qp9,ih]
theorem az (ds:List Nat)(i:Nat)(h:i<ds.length:=by omega):val (ds.take (i+1))=val (ds.take i)+4294967296^i*ds[i]:=by
 rw [Qy1 h,cR];simp [Qq5,Qy8 (Qh8 h)]
theorem aq {ds:List Nat}{i:Nat}(h:ds.length<=i:=by omega):val (ds.take i)=val ds:=by rw [Qb8 h]
theorem xy (ds:List Nat)(i x:Nat)(h:i<ds.length):(ds.set i x).take (i+1)=ds.take i++[x]:=by
 rw [Qy1 (by simpa using h),Qt3,Qd3 (by simp;omega)];simp
theorem aL (ds:List Nat)(i x:Nat)(h:i<ds.length:=by omega):val ((ds.set i x).take (i+1))=val (ds.take i)+4294967296^i*x:=by
 rw [xy ds i x h,cR];simp [Qq5,Qy8 (Qh8 h)]
theorem gI (r:List Nat):bW (r++[0])=bW r:=by
 induction r with
 | nil=>simp [bW]
 | cons d r ih=>simp only [Qf1,bW,ih]
theorem nZ (r:List Nat)(d:Nat)(h:d≠0):bW (r++[d])=r++[d]:=by
 induction r with
 | nil=>simp [bW,h]
 | cons x r ih=>simp [Qf1,bW,ih]
theorem GY (ds:List Nat):val (bW ds)=val ds:=by
 induction ds with
 | nil=>rfl
 | cons d r ih=>
  simp only [bW];split
  ·rename_i h;rw [bg,←ih,h.1,h.2];rfl
  ·simp [ih]
theorem kj (ds:List Nat):(bW ds).length<=ds.length:=by
 induction ds with
 | nil=>simp [bW]
 | cons d r ih=>simp only [bW];split<;>simp<;>omega
theorem GW (ds:List Nat):bW ds=ds.take (bW ds).length:=by
 induction ds with
 | nil=>rfl
 | cons d r ih=>
  simp only [bW];split
  ·rfl
  ·simp only [Qx2,List.take_succ_cons];rw [←ih]
theorem bP.trim {ds:List Nat}(h:bP ds):bP (bW ds):=by rw [GW];exact h.take _
theorem CJ (ds:List Nat):sj (bW ds):=by
 unfold sj
 induction ds with
 | nil=>rfl
 | cons d r ih=>
  rw [bW];split
  ·rfl
  ·rename_i h;rw [bW,ih,if_neg h]
theorem sj.tail {d:Nat}{r:List Nat}(h:sj (d::r)):sj r:=by
 unfold sj at h ⊢;simp only [bW] at h;split at h
 ·cases h
 ·injection h
theorem sj.zero {ds:List Nat}(h:sj ds)(hv:val ds=0):ds=[]:=by
 induction ds with
 | nil=>rfl
 | cons d r ih=>
  have a:=ih h.tail (by simp at hv;omega);subst a;simp at hv;subst hv;simp [sj,bW] at h
theorem oP:∀(f n:Nat),n<=f->val (ux f n)=n/\bP (ux f n)/\sj (ux f n)
 | 0,n,h=>⟨by simp [ux];omega,bP.nil,rfl⟩
 | f+1,n,h=>by
  simp only [ux];split
  ·subst_vars;exact ⟨rfl,bP.nil,rfl⟩
  ·obtain ⟨h1,h2,h3⟩:=oP f (n / 4294967296) (by omega);refine ⟨by rw [bg,h1];omega,bP.cons.2 ⟨by omega,h2⟩,?_⟩;unfold sj at h3 ⊢;rw [bW,h3,if_neg];rintro ⟨a,b⟩;rw [a] at h1;simp at h1;omega
theorem af (n:Nat):val (ai n)=n:=(oP n n (Qq3 _)).1
theorem aD (n:Nat):bP (ai n):=(oP n n (Qq3 _)).2.1
theorem iN (n:Nat):sj (ai n):=(oP n n (Qq3 _)).2.2
theorem sj.ext:∀{a b:List Nat},bP a->bP b->sj a->sj b->val a=val b->a=b
 | [],b,_,_,_,hb,h=>(hb.zero (by rw [←h];rfl)).symm
 | d::r,[],_,_,ha,_,h=>by have:=ha.zero h;cases this
 | d::r,e::s,ha,hb,na,nb,h=>by
  have f:=(bP.cons.1 ha).1;have g:=(bP.cons.1 hb).1;simp only [bg] at h;have:val r=val s:=by omega
  have c:=sj.ext (bP.cons.1 ha).2 (bP.cons.1 hb).2 na.tail nb.tail this;have:d=e:=by omega
  subst this;rw [c]
theorem uy {ds:List Nat}(h:bP ds)(hn:sj ds):ai (val ds)=ds:=sj.ext (aD _) h (iN _) hn (af _)
theorem aT {ds:List Nat}(h:bP ds):bW ds=ai (val ds):=by
 rw [←GY,uy h.trim (CJ _)]
theorem oQ {a b:Nat}(h:ai a=ai b):a=b:=by rw [←af a,h,af]
@[simp] theorem yI:ai 0=[]:=rfl
theorem bz {n:Nat}:ai n=[]↔n=0:=⟨fun h=>oQ (by rw [h];rfl),fun h=>h▸rfl⟩
theorem sj.last {ds:List Nat}(h:sj ds)(hl:0<ds.length):ds[ds.length-1]≠0:=by
 intro e
 have a:ds=ds.take (ds.length-1)++[ds[ds.length-1]]:=by
  rw [←Qy1 (by omega),Qb1 hl,Qk2]
 rw [e] at a;have b:bW ds=ds:=h;rw [a,gI] at b;have:=kj (ds.take (ds.length-1));rw [b] at this;simp at this;omega
theorem Cg {ds:List Nat}(h:∀hl:0<ds.length,ds[ds.length-1]≠0):sj ds:=by
 rcases Qx8 ds.length with e|e
 ·rw [Qw4.1 e];rfl
 ·have a:ds=ds.take (ds.length-1)++[ds[ds.length-1]]:=by
   rw [←Qy1 (by omega),Qb1 e,Qk2]
  have:=nZ (ds.take (ds.length-1)) _ (h e);rw [←a] at this;exact this
theorem Jr {ds:List Nat}(h:sj ds)(hl:0<ds.length:=by omega):4294967296^(ds.length-1)<=val ds:=by
 have a:ds=ds.take (ds.length-1)++[ds[ds.length-1]]:=by
  rw [←Qy1 (by omega),Qb1 hl,Qk2]
 have b:=h.last hl;rw [a,cR];simp only [bg,dL,Qq5];rw [Qy8 (by omega)];simp only [Qq2,Qq5,Qm5];rw [Qy8 (by omega),Qb1 hl];have:4294967296^(ds.length-1)*1<=4294967296^(ds.length-1)*(ds[ds.length-1]+4294967296*0):=Qy6 _ (by omega);omega
theorem aG {n k:Nat}:(ai n).length<=k↔n<4294967296^k:=by
 constructor
 ·intro h;have:=fE (aD n);rw [af] at this;exact Qx7 this (Qx3 (by omega) h)
 ·intro h;rcases Qy9 k (ai n).length with a|a
  ·have:=Jr (iN n);rw [af] at this;have b:4294967296^k<=4294967296^((ai n).length-1):=Qx3 (by omega) (by omega);omega
  ·exact a
theorem rH {n k:Nat}:k<(ai n).length↔4294967296^k<=n:=by
 have:=@aG n k;omega
theorem fT (ds:List Nat)(i:Nat)(h:i<ds.length:=by omega):val ds=val (ds.take i)+4294967296^i*(ds[i]+4294967296*val (ds.drop (i+1))):=by
 have a:val ds=val (ds.take i++ds.drop i):=by rw [Qj4]
 rw [a,cR,Qw1 h];simp only [Qq5,Qy8 (Qh8 h),bg]
theorem js {a b:List Nat}{i:Nat}(ha:bP a)(hi:i<a.length)(hj:i<b.length)(hd:a.drop (i+1)=b.drop (i+1))(hl:a[i]<b[i]):val a<val b:=by
 rw [fT a i hi,fT b i hj,hd];have c:=fE (ha.take i);simp only [Qq5,Qy8 (Qh8 hi)] at c;have d:4294967296^i*(a[i]+4294967296*val (b.drop (i+1))+1)<=4294967296^i*(b[i]+4294967296*val (b.drop (i+1))):=Qy6 _ (by omega);rw [Qv0,Qk8] at d;omega
theorem kc {a b:Nat}(h:(ai a).length<(ai b).length:=by omega):a<b:=by
 have c:=fE (aD a);have d:=Jr (iN b);rw [af] at c d;have e:4294967296^(ai a).length<=4294967296^((ai b).length-1):=Qx3 (by omega) (by omega);omega
def jZ (a b:Nat):Int:=if a<b then -1 else if b<a then 1 else 0
theorem aF {a b:Nat}(h:a<=b:=by omega):(ai a).length<=(ai b).length:=by
 rcases Qy9 (ai b).length (ai a).length with c|c
 ·have:=kc c;omega
 ·exact c
theorem bd {ds:List Nat}(h:bP ds):(ai (val ds)).length<=ds.length:=by rw [←aT h];exact kj ds
theorem JZ {n:Nat}(h:n<4294967296)(h0:n≠0:=by omega):ai n=[n]:=by
 have:sj [n]:=by simp [sj,bW,h0]
 have:=uy (by simp [bP];exact h) this;simpa using this
end Go.Big
namespace Go.Eng
open Go.Big
theorem ar {x:Int}(h:-9223372036854775808<=x/\x<=9223372036854775807):i64.wrap x=x:=IntWalk.i64_in x h
theorem aM {x:Int}(h:0<=x/\x<=18446744073709551615):u64.wrap x=x:=IntWalk.u64_in x h
theorem pG {x:Int}(h:0<=x/\x<=4294967295):u32.wrap x=x:=IntWalk.u32_in x h
theorem hU (x:Int):u32.wrap x=x%4294967296:=by rw [IntKind.wrap_u32]
theorem qR (x:Int):u64.wrap x=x%18446744073709551616:=by rw [IntKind.wrap_u64]
theorem ll {x:Int}:x.fdiv (2^32)=x / 4294967296:=by rw [Qp2 _ (by decide)];rfl
theorem Je {x:Int}:x.fdiv (2^63)=x / 9223372036854775808:=by rw [Qp2 _ (by decide)];rfl
theorem Cj (a b:Nat)(ha:a<4294967296)(hb:b<4294967296):aV .or .u64 ((a:Int)*4294967296) (b:Int)=(a:Int)*4294967296+b:=by
 have c:((a:Int)*4294967296)=((a*2^32:Nat):Int):=by simp
 rw [aV,c,qR]
 have d:(BitVec.ofInt IntKind.u64.bits ((a*2^32:Nat):Int) ||| BitVec.ofInt IntKind.u64.bits (b:Int)).toNat=a*2^32+b:=by
  show (BitVec.ofInt 64 ((a*2^32:Nat):Int) ||| BitVec.ofInt 64 (b:Int)).toNat=_;rw [Qj3,Qj3,Wx9,Qv6,Qv6,Qx9 (by omega),Qx9 (by omega)];have:=Qt0 (b:=b) (i:=32) (by omega) a;rw [Wx3] at this;exact this.symm
 rw [d];omega
def aE (ds:List Nat):List Value:=ds.map fun (d:Nat)=>Value.int .u32 (d:Int)
@[simp] theorem P0 (ds:List Nat):(aE ds).length=ds.length:=by simp [aE]
theorem bw (ds:List Nat)(i x:Nat):(aE ds).set i (.int .u32 (x:Int))=aE (ds.set i x):=by simp [aE,List.map_set]
theorem cE (n:Nat):List.replicate n (Value.int .u32 0)=aE (List.replicate n 0):=by simp [aE]
theorem fC {ds:List Nat}{i:Nat}(h:i<ds.length:=by omega):(aE ds)[i]?=some (.int .u32 (ds[i]:Int)):=by simp [aE,h]
theorem zy (ds:List Nat)(k:Nat):aE (ds.take k)=(aE ds).take k:=by simp [aE,Ww9]
theorem GX (ds:List Nat)(k:Nat):aE (ds.drop k)=(aE ds).drop k:=by simp [aE,Wx0]
theorem rX (a b:List Nat):aE (a++b)=aE a++aE b:=by simp [aE]
theorem View.Le.sl {V V':View}(h:V.Le V'){a:OA}{xs:List Value}(hs:V.sl a xs):V'.sl a xs:=
 fun i v b=>let ⟨ad,e,ha⟩:=hs i v b;⟨ad,e,h.at ha⟩
structure RD (V:View) (p:OA) (n c:Nat) (ds:List Nat):Prop where
 len:n=ds.length
 cap:n<=c
 sl:V.sl p (aE ds)
 ew:bP ds
 Ku:p.isNone=true->c=0
theorem RD.le {V V':View}{p:OA}{n c:Nat}{ds:List Nat}(h:RD V p n c ds)(l:V.Le V'):RD V' p n c ds:=⟨h.len,h.cap,l.sl h.sl,h.ew,h.Ku⟩
theorem RD.nil {V:View}:RD V none 0 0 []:=⟨rfl,Qq3 _,fun i v h=>by simp [aE] at h,bP.nil,fun _=>rfl⟩
theorem RD.take {V:View}{p:OA}{n c:Nat}{ds:List Nat}(h:RD V p n c ds){k:Nat}(hk:k<=n):RD V p k c (ds.take k):=by
 have:=h.len;refine ⟨by simp;omega,by have:=h.cap;omega,fun i v a=>h.sl i v ?_,h.ew.take k,h.Ku⟩;rw [zy] at a;rw [Qy3] at a;split at a
 ·exact a
 ·cases a
theorem RD.rd {V:View}{p:OA}{n c:Nat}{ds:List Nat}(h:RD V p n c ds){i:Int}{K:Int->Prop}(j:Nat)(hj:i=j)(hn:j<ds.length)
  (hK:K ((ds[j]:Nat):Int)):(p.isSome=true)/\(0<=i/\i<(n:Int))/\∃x:Int,(∃a,ah p (i.toNat*1)=some a/\V.at a (.int .u32 x))/\K x:=by
 obtain ⟨b,e,d⟩:=h.sl j _ (fC hn);have:=h.len;subst hj;refine ⟨by rw [e];rfl,⟨by omega,by omega⟩,_,⟨b.add j,?_,d⟩,hK⟩;rw [e];simp [ah]
theorem fj {V:View}{b:Nat}{xs:List Value}{ty:TypeId}{m:Nat×Nat}(h:V.bB b (.cells xs.toArray ty m)){i:Nat}{v:Value}(hv:xs[i]?=some v):V.at ⟨b,i,none⟩ v:=by
 refine ⟨h.1,?_⟩;unfold World.cell?;rw [h.2];simpa using hv
theorem add_zero' (b i:Nat):(⟨b,0,none⟩:Addr).add i=⟨b,i,none⟩:=by
 unfold Addr.add;split
 ·rename_i h;simp_all
 ·simp
theorem RD.bB {V:View}{b:Nat}{ds:List Nat}{ty:TypeId}{m:Nat×Nat}(h:V.bB b (.cells (aE ds).toArray ty m))(hd:bP ds){n c:Nat}(hn:n=ds.length)(hc:n<=c):RD V (some ⟨b,0,none⟩) n c ds:=
 ⟨hn,hc,fun i v a=>⟨_,rfl,by rw [add_zero'];exact fj h a⟩,hd,fun e=>nomatch e⟩
end Go.Eng
namespace Go.Proofs.Tryz
open Go.Eng Go.Big
theorem aX {V:View}{p:OA}{n c:Nat}{ds:List Nat}(h:RD V p n c ds)(hm:ds.length<=4611686018427387904:=by omega) :
  aa prog 196 #[.slice p n c] V fun r V'=>∃k,r=.slice p k c/\RD V' p k c (bW ds):=by
 refine C3 p n c V _ ?_;refine ⟨fun z V'=>z.1=p/\z.2.2=c/\z.2.1<=ds.length/\bW (ds.take z.2.1)=bW ds/\RD V' p z.2.1 c (ds.take z.2.1),fun z=>z.2.1,⟨(p,n,c),⟨rfl,rfl,rfl⟩,rfl,rfl,?_⟩,?_⟩
 ·have:=h.len;subst this;simp;exact h
 ·rintro ⟨q,k,i⟩ m o ⟨rfl,rfl,j,e,d⟩;dsimp only at j e d ⊢;refine ⟨rfl,fun a=>?_,fun a=>?_⟩
  ·have a:0<k:=by simpa using a
   simp (disch:=omega) only [ar];have s:(ds.take k).length=k:=by simp;omega
   have f:ds.take k=ds.take (k-1)++[ds[k-1]]:=by rw [←Qy1 (by omega),Qb1 a]
   refine d.rd (k-1) (by omega) (by omega) ⟨fun b=>?_,fun b=>?_⟩
   ·have b:ds[k-1]=0:=by simpa using b
    refine ⟨⟨by omega,by have:=d.cap;omega⟩,(q,k-1,i),by dsimp only;omega,⟨rfl,by dsimp only;omega,rfl⟩,rfl,rfl,by dsimp only;omega,?_,?_⟩
    ·dsimp only;rw [←e,f,b,gI]
    ·have:=d.take (k:=k-1) (by omega);dsimp only
     rwa [Qp3,Qy8 (by omega)] at this
   ·have b:ds[k-1]≠0:=by simpa using b
    refine fun l g=>⟨k,rfl,?_⟩;rw [←e,f,nZ _ _ b,←f];exact d.le g
  ·have a:k=0:=by simpa using a
   subst a;refine fun l g=>⟨0,rfl,?_⟩;rw [←e];exact d.le g
theorem lG {V:View}{p:OA}{n c:Nat}{ds:List Nat}(h:RD V p n c ds)(hm:ds.length<=1099511627776:=by omega) :
  aa prog 231 #[.slice p n c] V fun r V'=>∃q k c',r=.slice q k c'/\RD V' q k c' ds:=by
 have g:=h.len;refine tB p n c V _ ⟨fun f m o=>⟨_,_,_,rfl,?_⟩,fun f=>⟨aE ds,h.sl,by simp [g],by omega,by omega,by simp,by simp [g],?_,?_⟩⟩
 ·have f:p=none:=by simpa using f
  subst f
  have:ds=[]:=by
   rcases Qx8 ds.length with e|e
   ·exact Qw4.1 e
   ·obtain ⟨s,e,-⟩:=h.sl 0 _ (fC e);cases e
  subst this;exact RD.nil
 ·intro v a;simp only [aE,Qy5] at a;obtain ⟨d,-,rfl⟩:=a;rfl
 ·intro t J sp c' j u m o b l;refine ⟨_,_,_,rfl,?_⟩;simp only [Qy2,Qd0,Qc7,Qn3] at l j ⊢;exact ⟨g,j,fun i v a=>⟨_,rfl,by rw [add_zero'];exact fj l (by rw [Qw8 (by rcases Qy9 i (aE ds).length with e|e;exact e;rw [Qk6 e] at a;cases a)];exact a)⟩,h.ew,fun e=>nomatch e⟩
abbrev RN (V:View)(p:OA)(n c:Nat)(x:Nat):Prop:=RD V p n c (ai x)
theorem iC {V:View}{p:OA}{n c:Nat}{ds:List Nat}(h:RD V p n c ds)(hm:ds.length<=1099511627776) :
  aa prog 195 #[.slice p n c] V fun r V'=>∃q k c',r=.slice q k c'/\RN V' q k c' (val ds):=by
 refine CZ p n c V _ fun g a=>(aX (h.le a)).mono ?_;rintro r i j ⟨k,rfl,b⟩;refine ⟨_,_,_,rfl,fun l d=>(lG (b.le d) (by have:=kj ds;omega)).mono ?_⟩;rintro r m o ⟨q,s,c',rfl,e⟩;refine ⟨_,_,_,rfl,fun t f=>⟨_,_,_,rfl,?_⟩⟩;unfold RN;rw [←aT h.ew];exact e.le f
theorem oN {V:View}{p:OA}{n c:Nat}{ds:List Nat}(h:RD V p n c ds)(hm:ds.length<=1099511627776) :
  aa prog 146 #[.slice p n c] V fun r V'=>r=.bool (decide (ai (val ds)=ds)):=by
 have d:=h.len;refine xT p n c V _ ⟨fun a e f=>?_,fun a=>?_⟩
 ·have:ds=[]:=Qw4.1 (by simp at a;omega);subst this;rfl
 ·have a:0<n:=by simp at a;omega
  simp (disch:=omega) only [ar];refine h.rd (n-1) (by omega) (by omega) fun e f=>?_;congr 1;rw [Qz3];simp only [bne_iff_ne,ne_eq,decide_eq_true_eq];subst d;constructor
  ·intro b;exact uy h.ew (Cg fun _=>by simpa using b)
  ·intro he b;have:sj ds:=by rw [←he];exact iN _
   exact this.last (by omega) (by simpa using b)
theorem dj {V:View}(u:Int)(h0:0<=u)(h1:u<18446744073709551616:=by omega) :
  aa prog 197 #[.int .u64 u] V fun r V'=>∃q k c',r=.slice q k c'/\RN V' q k c' u.toNat:=by
 obtain ⟨u,rfl⟩:=Qw0 h0;refine s_ _ V _ ⟨by omega,fun e h f a=>?_⟩;rw [ll,hU,pG (by omega)] at a
 have a:e.bB f (.cells (aE [u%4294967296,u / 4294967296]).toArray 221 (0,0)):=by
  simpa [aE] using a
 have d:bP [u%4294967296,u / 4294967296]:=by simp [bP];omega
 refine (aX (RD.bB a d (n:=2) (c:=2) rfl (Qq3 _)) (by simp)).mono ?_;rintro r i j ⟨k,rfl,b⟩;refine ⟨_,_,_,rfl,fun _ l g=>⟨_,_,_,rfl,?_⟩⟩;rw [aT d] at b;have:val [u%4294967296,u / 4294967296]=(u:Int).toNat:=by simp;omega
 rw [this] at b;exact b.le g
theorem yB {V:View}{p q:OA}{n c m e:Nat}{xa xb:List Nat}(ha:RD V p n c xa)(hb:RD V q m e xb)(hm:xa.length<=1099511627776)(hn:xb.length<=1099511627776:=by omega) :
  aa prog 230 #[.slice p n c,.slice q m e] V fun r V'=>r=.int .i64 (jZ (val xa) (val xb)):=by
 have la:=kj xa;have lb:=kj xb;refine Ez p n c q m e V _ fun J w=>(aX (ha.le w)).mono ?_;rintro r K D ⟨n,rfl,g⟩;refine ⟨_,_,_,rfl,fun L A=>(aX (hb.le (w.trans (D.trans A)))).mono ?_⟩;rintro r M E ⟨m,rfl,j⟩;refine ⟨_,_,_,rfl,?_⟩
 replace g:=g.le (A.trans E)
 rw [aT ha.ew] at g la;rw [aT hb.ew] at j lb;generalize val xa=x at *;generalize val xb=y at *;have F:=g.len;have G:=j.len;refine ⟨fun h=>⟨fun d B C=>?_,fun d B C=>?_⟩,fun h=>?_⟩
 ·have:=kc (a:=x) (b:=y) (by simp at d;omega);rw [jZ,if_pos this]
 ·have:=kc (a:=y) (b:=x) (by simp at h d;omega);rw [jZ,if_neg (by omega),if_pos this]
 ·have h:n=m:=by simp at h;omega
  subst h;simp (disch:=omega) only [ar];refine ⟨fun z V'=>-1<=z/\z<n/\(ai x).drop (z+1).toNat=(ai y).drop (z+1).toNat,fun z=>(z+1).toNat,⟨_,by (try dsimp only);and_intros<;>trivial,by (try dsimp only);omega,by (try dsimp only);omega,?_⟩,?_⟩
  ·(try dsimp only)
   rw [Qx1 (by omega),Qx1 (by omega)]
  ·rintro i N k ⟨o,s,t⟩;dsimp only at o s t ⊢;refine ⟨by trivial,fun d=>?_,fun d B C=>?_⟩
   ·have d:0<=i:=by simpa using d
    obtain ⟨i,rfl⟩:=Qw0 d;simp (disch:=omega) only [ar];have f:(ai x).drop (i+1)=(ai y).drop (i+1):=t;refine (g.le k).rd i rfl (by omega) ((j.le k).rd i rfl (by omega) ⟨fun u H I=>?_,fun u=>?_⟩)
    ·have:=js (aD x) (by omega) (by omega) f (by simpa using u);rw [af,af] at this;rw [jZ,if_pos this]
    ·refine (g.le k).rd i rfl (by omega) ((j.le k).rd i rfl (by omega) ⟨fun v H I=>?_,fun v=>?_⟩)
     ·have:=js (aD y) (by omega) (by omega) f.symm (by simpa using v);rw [af,af] at this;rw [jZ,if_neg (by omega),if_pos this]
     ·refine ⟨_,?_,by (try dsimp only);and_intros<;>trivial,?_,?_,?_⟩
      ·(try dsimp only);omega
      ·(try dsimp only);omega
      ·(try dsimp only);omega
      ·(try dsimp only)
       have:((i:Int)-1+1).toNat=i:=by omega
       rw [this,Qw1 (by omega),Qw1 (l:=ai y) (by omega),f];congr 1;simp at u v;omega
   ·have d:i=-1:=by simp at d;omega
    subst d;have:ai x=ai y:=by simpa using t
    have:=oQ this;subst this;simp [jZ]
theorem tQ {E A B c d x y W:Nat}(h:E+W*c=A+B)(hd:d=c+x+y:=by omega):E+W*(d%4294967296)+W*4294967296*(d / 4294967296)=A+W*x+(B+W*y):=by
 have a:W*(d%4294967296)+W*4294967296*(d / 4294967296)=W*d:=by
  rw [Qk3,←Qv0,Qg5]
 rw [Qv1,a,hd,Qv0,Qv0];omega
theorem F4 {V:View}{p q:OA}{n c m e:Nat}{xa xb:List Nat}(ha:RD V p n c xa)(hb:RD V q m e xb)(hm:xa.length<=1099511627776)(hn:xb.length<=1099511627776) :
  aa prog 250 #[.slice p n c,.slice q m e] V fun r V'=>∃p' n' c',r=.slice p' n' c'/\RN V' p' n' c' (val xa+val xb):=by
 have B:=ha.len;have C:=hb.len;refine Ey p n c q m e V _ ⟨fun z V'=>∃xs b,RD V' z.1 z.2.1 z.2.2.1 xs/\RD V' z.2.2.2.1 z.2.2.2.2.1 z.2.2.2.2.2 b/\b.length<=xs.length/\xs.length<=1099511627776/\val xs+val b=val xa+val xb,⟨fun D=>?_,fun D=>?_⟩,?_⟩
 ·exact ⟨(_,_,_,_,_,_),by (try dsimp only);and_intros<;>trivial,xb,xa,hb,ha,by simp at D;omega,hn,by omega⟩
 ·exact ⟨(_,_,_,_,_,_),by (try dsimp only);and_intros<;>trivial,xa,xb,ha,hb,by simp at D;omega,hm,rfl⟩
 ·rintro ⟨p,n,c,q,m,e⟩ O P ⟨xs,b,x,A,Q,hm,h⟩;dsimp only at x A ⊢;rw [←h];clear h ha hb B C;have L:=x.len;have R:=A.len;simp (disch:=omega) only [ar,cE];have E:((n:Int)+1).toNat=n+1:=by omega
  rw [E]
  refine ⟨by trivial,by omega,by omega,by omega,fun z V'=>0<=z.1/\z.1<=1/\0<=z.2.1/\z.2.1<=n/\∃es:List Nat,z.2.2=aE es/\es.length=n+1/\bP es /\
   val (es.take z.2.1.toNat)+4294967296^z.2.1.toNat*z.1.toNat=val (xs.take z.2.1.toNat)+val (b.take z.2.1.toNat),fun z=>n-z.2.1.toNat,⟨(0,0,aE (List.replicate (n+1) 0)),by (try dsimp only);and_intros<;>trivial,by (try dsimp only);omega,by (try dsimp only);omega,by (try dsimp only);omega,by (try dsimp only);omega,_,rfl,by simp,bP.rep _,by simp⟩,?_⟩
  rintro ⟨f,i,S⟩ T K ⟨o,F,s,G,es,rfl,H,t,h⟩;dsimp only at o F s G h ⊢;obtain ⟨i,rfl⟩:=Qw0 s;obtain ⟨f,rfl⟩:=Qw0 o;simp only [Qq0] at h;refine ⟨by trivial,fun l=>?_,fun l=>?_⟩
  ·have l:i<n:=by simpa using l
   refine (x.le K).rd i rfl (by omega) ?_;have U:=x.ew.get (i:=i) (by omega)
   have next:∀d:Nat,d<8589934592->val (es.take i)+4294967296^i*(d%4294967296)+4294967296^i*4294967296*(d / 4294967296)=val (xs.take (i+1))+val (b.take (i+1)) ->
     ∃a:List Nat,(aE es).set i (.int .u32 ((d%4294967296:Nat):Int))=aE a/\a.length=n+1/\bP a /\
     val (a.take (i+1))+4294967296^(i+1)*(d / 4294967296)=val (xs.take (i+1))+val (b.take (i+1)):=by
    intro d W he;refine ⟨es.set i (d%4294967296),bw _ _ _,by simpa using H,t.set _ _ (by omega),?_⟩;rw [aL _ _ _,Qk0];exact he
   refine ⟨fun g=>?_,fun g=>?_⟩
   ·have g:i<m:=by simpa using g
    refine (A.le K).rd i rfl (by omega) ?_;have M:=A.ew.get (i:=i) (by omega);simp (disch:=omega) only [aM,ar,hU,ll];refine ⟨⟨by omega,by omega⟩,by simp;omega,by omega,(_,_,_),?_,by (try dsimp only);and_intros<;>trivial,?_⟩
    ·(try dsimp only);omega
    ·(try dsimp only)
     have j:((i:Int)+1).toNat=i+1:=by omega
     obtain ⟨a,u,v,I,J⟩:=next (f+xs[i]+b[i]) (by omega) (by rw [az _ _,az _ _];exact tQ h rfl);refine ⟨by omega,by omega,by omega,by omega,a,?_,v,I,?_⟩
     ·rw [←u];simp
     ·rw [j,←J];congr 2
   ·have g:m<=i:=by simpa using g
    simp (disch:=omega) only [aM,ar,hU,ll];refine ⟨⟨by omega,by omega⟩,by simp;omega,by omega,(_,_,_),?_,by (try dsimp only);and_intros<;>trivial,?_⟩
    ·(try dsimp only);omega
    ·(try dsimp only)
     have j:((i:Int)+1).toNat=i+1:=by omega
     obtain ⟨a,u,v,I,J⟩:=next (f+xs[i]) (by omega) (by
      rw [az _ _,aq (ds:=b) (i:=i+1)];have:=tQ (y:=0) h (d:=f+xs[i]) rfl
      rwa [aq (ds:=b),Qv2,Qz2] at this)
     refine ⟨by omega,by omega,by omega,by omega,a,?_,v,I,?_⟩
     ·rw [←u];simp
     ·rw [j,←J];congr 2
  ·have l:i=n:=by simp at l;omega
   subst l;simp (disch:=omega) only [pG];refine ⟨⟨by omega,by omega⟩,by simp;omega,fun X Y Z hb=>?_⟩;have u:(aE es).set (0+((i:Int).toNat)*1) (.int .u32 (f:Int))=aE (es.set i f):=by rw [←bw];simp
   rw [u] at hb;have w:=t.set i f (by omega);refine (aX (RD.bB hb w (n:=i+1) (c:=i+1) (by simp;omega) (Qq3 _)) (by simp;omega)).mono ?_;rintro r V4 l4 ⟨k,rfl,g⟩;refine ⟨_,_,_,rfl,fun _ V5 N=>⟨_,_,_,rfl,?_⟩⟩;rw [aT w] at g
   have v:val (es.set i f)=val xs+val b:=by
    have:=aL es i f;rw [aq (by simp;omega)] at this;rw [this,h,aq,aq]
   rw [v] at g;exact g.le N
theorem Jj {E A B c x y W:Nat}(h:E+B=A+W*c){v:Int}(hc:c<=1)(hx:x<4294967296)(hy:y<4294967296)(hv:v=((x:Int)-(c+y))%18446744073709551616) :
  0<=v/\v / 9223372036854775808<=1/\0<=v / 9223372036854775808/\E+W*(v%4294967296).toNat+(B+W*y)=A+W*x+W*4294967296*(v / 9223372036854775808).toNat:=by
 rcases Qy9 x (c+y) with d|d
 ·have e:v=18446744073709551616+(x:Int)-(c+y):=by omega
  have a:(v / 9223372036854775808).toNat=1:=by omega
  have b:(v%4294967296).toNat+(c+y)=x+4294967296:=by omega
  refine ⟨by omega,by omega,by omega,?_⟩;rw [a,Qk8];have:=congrArg (W*·) b;simp only [Qv0] at this;omega
 ·have e:v=(x:Int)-(c+y):=by omega
  have a:(v / 9223372036854775808).toNat=0:=by omega
  have b:(v%4294967296).toNat+(c+y)=x:=by omega
  refine ⟨by omega,by omega,by omega,?_⟩;rw [a,Qv2,Qz2];have:=congrArg (W*·) b;simp only [Qv0] at this;omega
theorem DH {V:View}{p q:OA}{n c m e:Nat}{xs ys:List Nat}(hx:RD V p n c xs)(hy:RD V q m e ys)(hm:xs.length<=1099511627776)(hl:ys.length<=xs.length)(hle:val ys<=val xs) :
  aa prog 262 #[.slice p n c,.slice q m e] V fun r V'=>∃p' n' c',r=.slice p' n' c'/\RN V' p' n' c' (val xs-val ys):=by
 have D:=hx.len;have O:=hy.len
 refine C1 p n c q m e V _ ⟨by omega,by omega,by omega,fun z V'=>0<=z.1/\z.1<=1/\0<=z.2.1/\z.2.1<=n/\∃es:List Nat,z.2.2=aE es/\es.length=n/\bP es /\
   val (es.take z.2.1.toNat)+val (ys.take z.2.1.toNat)=val (xs.take z.2.1.toNat)+4294967296^z.2.1.toNat*z.1.toNat,fun z=>n-z.2.1.toNat,
   ⟨(0,0,List.replicate n (.int .u32 0)),by (try dsimp only);and_intros<;>trivial,by (try dsimp only);omega,by (try dsimp only);omega,by (try dsimp only);omega,by (try dsimp only);omega,List.replicate n 0,cE n,by simp,bP.rep _,by simp⟩,?_⟩
 rintro ⟨j,i,P⟩ Q B ⟨l,u,o,w,es,rfl,d,a,s⟩;dsimp only at l u o w s ⊢;obtain ⟨i,rfl⟩:=Qw0 o;obtain ⟨j,rfl⟩:=Qw0 l;simp only [Qq0] at s;refine ⟨by trivial,fun f=>?_,fun f=>?_⟩
 ·have f:i<n:=by simpa using f
  refine (hx.le B).rd i rfl (by omega) ?_;have E:=hx.ew.get (i:=i) (by omega);refine ⟨fun z V'=>∃y:Nat,z=j+y/\y<4294967296/\val (ys.take (i+1))=val (ys.take i)+4294967296^i*y,⟨fun b=>?_,fun b=>?_⟩,?_⟩
  ·have b:i<m:=by simpa using b
   refine (hy.le B).rd i rfl (by omega) ?_;have g:=hy.ew.get (i:=i) (by omega);simp (disch:=omega) only [aM];exact ⟨_,by (try dsimp only);and_intros<;>trivial,ys[i],rfl,g,az _ _⟩
  ·have b:m<=i:=by simpa using b
   exact ⟨_,by (try dsimp only);and_intros<;>trivial,0,by simp,by omega,by rw [aq,aq];simp⟩
  ·rintro t F G ⟨y,rfl,g,x⟩;refine ⟨by trivial,⟨by omega,by simpa using f⟩,by simp;omega,by omega,?_⟩;simp (disch:=omega) only [aM,ar,qR,hU,Je];obtain ⟨v,C⟩:∃v:Int,v=((xs[i]:Int)-((j:Int)+(y:Int)))%18446744073709551616:=⟨_,rfl⟩;obtain ⟨R,H,I,J⟩:=Jj s (by omega) E g C;rw [←C];refine ⟨(_,_,_),?_,by (try dsimp only);and_intros<;>trivial,?_⟩
   ·(try dsimp only);omega
   ·(try dsimp only)
    have A:((i:Int)+1).toNat=i+1:=by omega
    refine ⟨I,H,by omega,by omega,es.set i (v%4294967296).toNat,?_,by simpa using d,a.set _ _ (by omega),?_⟩
    ·rw [←bw];congr 2
     ·simp
     ·omega
    ·rw [A,aL _ _ _,x,J,az _ _,Qk0]
 ·have f:i=n:=by simp at f;omega
  subst f;intro F G S K;refine (aX (RD.bB K a (n:=i) (c:=i) d.symm (Qq3 _))).mono ?_;rintro r T U ⟨k,rfl,b⟩;refine ⟨_,_,_,rfl,fun _ W L=>⟨_,_,_,rfl,?_⟩⟩;rw [aT a] at b;rw [aq,aq,aq] at s;have M:=fE a;rw [d] at M
  have N:j=0:=by
   rcases Qx8 j with h|h
   ·exact h
   ·have:4294967296^i*1<=4294967296^i*j:=Qy6 _ h;omega
  subst N;rw [show val es=val xs-val ys from by omega] at b;exact b.le L
theorem fo {a b:Nat}:jZ a b<0↔a<b:=by
 unfold jZ;split
 ·simp;omega
 ·split<;>simp<;>omega
theorem j7 {a b:Nat}:jZ a b=0↔a=b:=by
 unfold jZ;split
 ·simp;omega
 ·split
  ·simp;omega
  ·simp;omega
theorem yD {V:View}{p q:OA}{n c m e:Nat}{xa xb:List Nat}(ha:RD V p n c xa)(hb:RD V q m e xb)(hm:xa.length<=1099511627776)(hn:xb.length<=1099511627776) :
  aa prog 251 #[.slice p n c,.slice q m e] V fun r V'=>∃p' n' c',r=.tuple #[.slice p' n' c',.bool (decide (val xb<=val xa))]/\RN V' p' n' c' (val xa-val xb):=by
 refine EE p n c q m e V _ fun u b=>(yB (ha.le b) (hb.le b) hm hn).mono ?_;rintro r v f rfl;refine ⟨_,rfl,fun a l d=>?_,fun a l d=>?_⟩
 ·have a:val xa<val xb:=by simpa [fo] using a
  rw [Nat.sub_eq_zero_of_le (by omega),decide_eq_false (by omega)];exact ⟨_,_,_,rfl,RD.nil⟩
 ·have a:val xb<=val xa:=by simpa [←Wy8,fo] using a
  rw [decide_eq_true a];refine (aX ((ha.le b).le (f.trans d))).mono ?_;rintro r w o ⟨x,rfl,g⟩;refine ⟨_,_,_,rfl,fun y h=>(aX ((hb.le b).le (f.trans (d.trans (o.trans h))))).mono ?_⟩;rintro r z s ⟨A,rfl,i⟩;rw [aT ha.ew] at g;rw [aT hb.ew] at i;have:=bd ha.ew;refine ⟨_,_,_,rfl,fun B j=>(DH (g.le (h.trans (s.trans j))) (i.le j) (by omega) (aF a) (by rw [af,af];exact a)).mono ?_⟩;rintro r C D ⟨p',n',c',rfl,k⟩;rw [af,af] at k;exact ⟨_,_,_,rfl,fun E t=>⟨_,_,_,rfl,k.le t⟩⟩
end Go.Proofs.Tryz
namespace Go.Big
def bf (n:Nat):Nat:=if n=0 then 0 else n.log2+1
theorem oX (n:Nat):n<2^bf n:=by
 unfold bf;split
 ·subst_vars;decide
 ·exact Nat.lt_log2_self
theorem oW {n:Nat}(h:n≠0):2^(bf n-1)<=n:=by
 unfold bf;rw [if_neg h];exact Nat.log2_self_le h
theorem rB {n b:Nat}(h0:n<2^b)(h1:b=0\/2^(b-1)<=n):bf n=b:=by
 rcases h1 with h1|h1
 ·subst h1;have:n=0:=by simpa using h0
  subst this;rfl
 ·have a:n≠0:=by have:=Qz8 (b-1);omega
  have c:=oX n;have d:=oW a;have e:¬bf n<b:=fun h=>by have:=Qx3 (n:=2) (by omega) (show bf n<=b-1 by omega);omega
  have f:¬b<bf n:=fun h=>by have:=Qx3 (n:=2) (by omega) (show b<=bf n-1 by omega);omega
  omega
theorem eh {n b:Nat}:bf n<=b↔n<2^b:=by
 constructor
 ·intro h;exact Qx7 (oX n) (Qx3 (by omega) h)
 ·intro h;rcases Qy9 b (bf n) with a|a
  ·have c:n≠0:=by intro e;subst e;simp [bf] at a
   have:=oW c;have:=Qx3 (n:=2) (by omega) (show b<=bf n-1 by omega);omega
  ·exact a
theorem tW {n k:Nat}(h:2^k<=n):bf (n / 2^k)+k=bf n:=by
 have a:=Qz8 k;have b:n / 2^k≠0:=by have:=Nat.div_pos h a;omega
 have c:=oX (n / 2^k);have d:=oW b;refine (rB ?_ (.inr ?_)).symm
 ·rw [Qz1];exact (Qv7 a).1 c
 ·have e:0<bf (n / 2^k):=by unfold bf;rw [if_neg b];omega
  rw [show bf (n / 2^k)+k-1=bf (n / 2^k)-1+k from by omega,Qz1];exact (Qh9 a).1 d
end Go.Big
namespace Go.Proofs.Tryz
open Go.Eng Go.Big
theorem fq (a k:Nat):((a:Nat):Int).fdiv (2^k)=((a / 2^k:Nat):Int):=by
 rw [Qp2 _ (by have:=Int.pow_pos (n:=2) (m:=k) (by omega);omega)];simp
def B7:ByteArray:=⟨#[0,1,2,2,3,3,3,3,4,4,4,4,4,4,4,4,5,5,5,5,5,5,5,5,5,5,5,5,5,5,5,5,6,6,6,6,6,6,6,6,6,6,6,6,6,6,6,6,6,6,6,6,6,6,6,6,6,6,6,6,6,6,6,6,7,7,7,7,7,7,7,7,7,7,7,7,7,7,7,7,7,7,7,7,7,7,7,7,7,7,7,7,7,7,7,7,7,7,7,7,7,7,7,7,7,7,7,7,7,7,7,7,7,7,7,7,7,7,7,7,7,7,7,7,7,7,7,7,8,8,8,8,8,8,8,8,8,8,8,8,8,8,8,8,8,8,8,8,8,8,8,8,8,8,8,8,8,8,8,8,8,8,8,8,8,8,8,8,8,8,8,8,8,8,8,8,8,8,8,8,8,8,8,8,8,8,8,8,8,8,8,8,8,8,8,8,8,8,8,8,8,8,8,8,8,8,8,8,8,8,8,8,8,8,8,8,8,8,8,8,8,8,8,8,8,8,8,8,8,8,8,8,8,8,8,8,8,8,8,8,8,8,8,8,8,8,8,8,8,8,8,8,8,8,8,8]⟩
set_option maxRecDepth 10000 in
theorem JR {V:View}(x:Nat)(hx:x<4294967296) :
  aa prog 214 #[.int .u32 (x:Int)] V fun r V'=>r=.int .i64 (bf x:Int):=by
 refine om _ V _ ⟨fun z _=>∃y b:Nat,z=((y:Int),(b:Int))/\y<65536/\b<=16/\bf x=bf y+b,⟨fun a=>⟨by omega,?_⟩,fun a=>?_⟩,?_⟩
 ·rw [fq];have a:2^16<=x:=by simp at a;omega
  exact ⟨_,⟨rfl,rfl⟩,x / 2^16,16,rfl,by omega,by omega,(tW a).symm⟩
 ·exact ⟨_,⟨rfl,rfl⟩,x,0,rfl,by simp at a;omega,by omega,rfl⟩
 ·rintro _ h i ⟨y,b,rfl,d,f,e⟩;rw [e];clear e;refine ⟨by trivial,fun z _=>∃y' b':Nat,z=((y':Int),(b':Int))/\y'<256/\b'<=24/\bf y+b=bf y'+b',⟨fun a=>⟨by omega,?_⟩,fun a=>?_⟩,?_⟩
  ·dsimp only at a ⊢;rw [fq];simp (disch:=omega) only [ar];have a:2^8<=y:=by simp at a;omega
   exact ⟨(((y / 2^8:Nat):Int),(b:Int)+8),⟨rfl,rfl⟩,y / 2^8,b+8,by simp,by omega,by omega,by have:=tW a;omega⟩
  ·exact ⟨_,⟨rfl,rfl⟩,y,b,rfl,by simp at a;omega,by omega,rfl⟩
  ·rintro _ j k ⟨y,b,rfl,d,f,e⟩;rw [e];clear e;have hw:IntKind.u8.wrap (y:Int)=y:=IntWalk.u8_in _ (by omega);dsimp only;rw [hw];have c:(B7.size:Int)=256:=rfl;refine ⟨by trivial,⟨by omega,by show (y:Int)<(B7.size:Int);rw [c];omega⟩,fun l m=>?_⟩;show Value.int .i64 (i64.wrap (b+i64.wrap ((B7.data.toList.getD (y:Int).toNat 0).toNat:Int)))=_;congr 1;have key:∀y:Nat,y<256->(B7.data.toList.getD y 0).toNat=bf y:=by decide +kernel
   have g:bf y<=8:=eh.2 (by omega);have:=key y d;rw [Qq0,this];simp (disch:=omega) only [ar];omega
theorem fL {V:View}(x:Nat)(hx:x<4294967296) :
  aa prog 227 #[.int .u32 (x:Int)] V fun r V'=>r=.int .i64 (32-(bf x:Int)):=by
 refine ia _ V _ fun b c=>(JR x hx).mono ?_;rintro r d e rfl;have a:bf x<=32:=eh.2 (by omega);refine ⟨_,rfl,fun f g=>?_⟩;simp (disch:=omega) only [ar]
theorem EV (a:Nat)(ha:a<18446744073709551616:=by omega):aV .and .u64 (a:Int) 4294967295=((a%4294967296:Nat):Int):=by
 rw [aV,qR]
 have b:(BitVec.ofInt IntKind.u64.bits ((a:Nat):Int) &&& BitVec.ofInt IntKind.u64.bits 4294967295).toNat=a%4294967296:=by
  show (BitVec.ofInt 64 ((a:Nat):Int) &&& BitVec.ofInt 64 ((4294967295:Nat):Int)).toNat=_;rw [Qj3,Qj3,Wx4,Qv6,Qv6,Qx9 (by omega),Qx9 (by omega)];have:=Nat.and_two_pow_sub_one_eq_mod a 32;exact this
 rw [b];omega
theorem Cd (a b c d:Nat)(ha:a<4294967296)(hb:b<4294967296)(hc:c<4294967296)(hd:d<4294967296:=by omega) :
  a*c+(a*d+b*d / 4294967296) / 4294967296+((a*d+b*d / 4294967296)%4294967296+b*c) / 4294967296=(a*4294967296+b)*(c*4294967296+d) / 18446744073709551616 /\
  a*c<=18446744065119617025/\a*d<=18446744065119617025/\b*c<=18446744065119617025/\b*d<=18446744065119617025:=by
 have f:a*c<=4294967295*4294967295:=Qm7 (by omega) (by omega);have g:a*d<=4294967295*4294967295:=Qm7 (by omega) (by omega);have h:b*c<=4294967295*4294967295:=Qm7 (by omega) (by omega);have i:b*d<=4294967295*4294967295:=Qm7 (by omega) (by omega);have e:(a*4294967296+b)*(c*4294967296+d)=(a*c)*18446744073709551616+(a*d)*4294967296+(b*c)*4294967296+b*d:=by grind
 rw [e];generalize a*c=p at *;generalize a*d=q at *;generalize b*c=r at *;generalize b*d=s at *;refine ⟨by omega,by omega,by omega,by omega,by omega⟩
theorem JT {V:View}(x y:Nat)(hx:x<18446744073709551616)(hy:y<18446744073709551616:=by omega) :
  aa prog 248 #[.int .u64 (x:Int),.int .u64 (y:Int)] V fun r V'=>r=.tuple #[.int .u64 ((x*y / 18446744073709551616:Nat):Int),.int .u64 ((x*y%18446744073709551616:Nat):Int)]:=by
 refine oq _ _ V _ ⟨by omega,by omega,by omega,by omega,by omega,fun v w=>?_⟩;have p:=Cd (x / 4294967296) (x%4294967296) (y / 4294967296) (y%4294967296) (by omega) (by omega) (by omega);rw [Nat.div_add_mod' x 4294967296,Nat.div_add_mod' y 4294967296] at p;obtain ⟨f,z,A,B,C⟩:=p;have e:u64.wrap ((x:Int)*y)=((x*y%18446744073709551616:Nat):Int):=by rw [qR];simp
 rw [e,EV x hx,EV y hy,ll,ll];rw [←f];have g:((x:Int) / 4294967296)*((y:Int) / 4294967296)=((x / 4294967296*(y / 4294967296):Nat):Int):=by simp
 have h:((x:Int) / 4294967296)*((y%4294967296:Nat):Int)=((x / 4294967296*(y%4294967296):Nat):Int):=by simp
 have i:((x%4294967296:Nat):Int)*((y:Int) / 4294967296)=((x%4294967296*(y / 4294967296):Nat):Int):=by simp
 have j:((x%4294967296:Nat):Int)*((y%4294967296:Nat):Int)=((x%4294967296*(y%4294967296):Nat):Int):=by simp
 rw [g,h,i,j];generalize x / 4294967296*(y / 4294967296)=a at *;generalize x / 4294967296*(y%4294967296)=b at *;generalize x%4294967296*(y / 4294967296)=c at *;generalize x%4294967296*(y%4294967296)=d at *;simp only [ll];have k:u64.wrap (d:Int)=d:=aM (by omega);have l:u64.wrap (b:Int)=b:=aM (by omega);have m:u64.wrap (c:Int)=c:=aM (by omega);have n:u64.wrap (a:Int)=a:=aM (by omega);rw [k,l,m,n];have o:u64.wrap ((b:Int)+d / 4294967296)=((b+d / 4294967296:Nat):Int):=by rw [aM (by omega)];omega
 rw [o,EV _];have q:u64.wrap (((b+d / 4294967296)%4294967296:Nat)+(c:Int))=(((b+d / 4294967296)%4294967296+c:Nat):Int):=by rw [aM (by omega)];omega
 rw [q]
 have s:x*y / 18446744073709551616<18446744073709551616:=by
  have:x*y<18446744073709551616*18446744073709551616:=Qp7 hx hy;omega
 have t:u64.wrap ((a:Int)+((b+d / 4294967296:Nat):Int) / 4294967296)=((a+(b+d / 4294967296) / 4294967296:Nat):Int):=by
  rw [aM (by omega)];omega
 rw [t]
 have u:u64.wrap (((a+(b+d / 4294967296) / 4294967296:Nat):Int)+(((b+d / 4294967296)%4294967296+c:Nat):Int) / 4294967296)=((a+(b+d / 4294967296) / 4294967296+((b+d / 4294967296)%4294967296+c) / 4294967296:Nat):Int):=by
  rw [aM (by omega)];omega
 rw [u]
theorem JO {V:View}(x y c:Nat)(hx:x<4294967296)(hy:y<4294967296)(hc:c<4294967296:=by omega) :
  aa prog 225 #[.int .u32 (x:Int),.int .u32 (y:Int),.int .u32 (c:Int)] V fun r V'=>r=.tuple #[.int .u32 (((x+y+c)%4294967296:Nat):Int),.int .u32 (((x+y+c) / 4294967296:Nat):Int)]:=by
 refine oa _ _ _ V _ ⟨by omega,fun d e=>?_⟩;simp (disch:=omega) only [aM,hU,ll];have a:((x:Int)+y+c)%4294967296=(((x+y+c)%4294967296:Nat):Int):=by omega
 have b:((x:Int)+y+c) / 4294967296%4294967296=(((x+y+c) / 4294967296:Nat):Int):=by omega
 rw [a,b]
theorem IH (a b:Nat)(ha:a<4294967296)(hb:b<4294967296):aV .or .u64 (b:Int) ((a:Int)*4294967296)=(b:Int)+(a:Int)*4294967296:=by
 have h:aV .or .u64 (b:Int) ((a:Int)*4294967296)=aV .or .u64 ((a:Int)*4294967296) (b:Int):=by
  simp only [aV,BitVec.or_comm]
 rw [h,Cj a b ha hb];omega
theorem PA (b:Nat)(hb:b<4294967296):aV .or .u64 0 (b:Int)=b:=by
 have:=Cj 0 b (by omega) hb;simpa using this
theorem kz {V:View}{p:OA}{n c:Nat}{ds:List Nat}(h:RD V p n c ds)(hm:ds.length<=1099511627776:=by omega) :
  aa prog 193 #[.slice p n c] V fun r V'=>r=.tuple #[.int .u64 ((if val ds<18446744073709551616 then val ds else 0:Nat):Int),.bool (decide (val ds<18446744073709551616))]:=by
 refine C0 p n c V _ fun y q=>(aX (h.le q)).mono ?_;rintro r A B ⟨n,rfl,e⟩;rw [aT h.ew] at e;generalize val ds=x at *;have C:=e.len;have D:(ai x).length<=2↔x<18446744073709551616:=aG (k:=2);refine ⟨_,_,_,rfl,fun a E F=>?_,fun a=>?_⟩
 ·have a:¬x<18446744073709551616:=by simp at a;omega
  rw [if_neg a,decide_eq_false a];rfl
 ·have m:x<18446744073709551616:=by simp at a;omega
  rw [if_pos m,decide_eq_true m];have G:n<=2:=by omega
  refine ⟨fun z V'=>0<=z.2/\z.2<=n/\z.1=(val ((ai x).take z.2.toNat):Int),fun z=>n-z.2.toNat,⟨(0,0),by (try dsimp only);and_intros<;>trivial,by (try dsimp only);omega,by (try dsimp only);omega,by simp⟩,?_⟩;rintro ⟨u,i⟩ H s ⟨d,f,hu⟩;dsimp only at d f hu ⊢;subst hu;obtain ⟨i,rfl⟩:=Qw0 d;simp only [Qq0];refine ⟨by trivial,fun b=>?_,fun b I J=>?_⟩
  ·have b:i<n:=by simpa using b
   refine (e.le s).rd i rfl (by omega) ?_;have o:=(aD x).get (i:=i) (by omega);simp (disch:=omega) only [ar];refine ⟨by omega,(_,_),?_,by (try dsimp only);and_intros<;>trivial,?_⟩
   ·(try dsimp only);omega
   ·(try dsimp only)
    refine ⟨by omega,by omega,?_⟩;have g:((i:Int)+1).toNat=i+1:=by omega
    rw [g,az _ _];have t:i=0\/i=1:=by omega
    rcases t with rfl|rfl
    ·simp (disch:=omega) only [aM];have j:(min ((32:Int)*((0:Nat):Int)).toNat IntKind.u64.bits)=0:=by decide
     rw [j];simp (disch:=omega) only [aM,Int.pow_zero,Int.mul_one,Qc7,dL,Nat.pow_zero,Qm3,Qy2];exact PA _ o
    ·have j:(min ((32:Int)*((1:Nat):Int)).toNat IntKind.u64.bits)=32:=by decide
     have a:0<(ai x).length:=by omega
     have l:=(aD x).get (i:=0) a;have v:(ai x).take 1=[(ai x)[0]]:=by rw [Qy1 a];rfl
     have w:((2:Int)^32)=4294967296:=by decide
     rw [j,v,w];simp (disch:=omega) only [aM];simp only [bg,dL,Qv2,Qz2];rw [IH _ _ o l];omega
  ·have b:i=n:=by simp at b;omega
   subst b;rw [aq,af]
theorem fN {V:View}{p:OA}{n c:Nat}{ds:List Nat}(h:RD V p n c ds)(hm:ds.length<=1099511627776) :
  aa prog 189 #[.slice p n c] V fun r V'=>r=.int .i64 (bf (val ds):Int):=by
 have k:=bd h.ew;refine CY p n c V _ fun t l=>(aX (h.le l)).mono ?_;rintro r u v ⟨n,rfl,g⟩;rw [aT h.ew] at g;generalize val ds=x at *;have m:=g.len;refine ⟨_,_,_,rfl,fun f w y=>?_,fun f=>?_⟩
 ·have:ai x=[]:=Qw4.1 (by simp at f;omega);have:=bz.1 this;subst this;rfl
 ·have f:0<n:=by simp at f;omega
  simp (disch:=omega) only [ar];refine g.rd (n-1) (by omega) (by omega) fun z A=>(fL _ ((aD x).get (by omega))).mono ?_;rintro r B C rfl;refine ⟨_,rfl,fun D E=>?_⟩;have F:=(aD x).get (i:=n-1) (by omega)
  have a:(ai x)[n-1]≠0:=by
   have:=(iN x).last (by omega);simpa [m] using this
  have G:bf (ai x)[n-1]<=32:=eh.2 (by omega);simp (disch:=omega) only [ar]
  have key:bf x=32*(n-1)+bf (ai x)[n-1]:=by
   have e:=fT (ai x) (n-1);rw [af,Qx1 (by omega)] at e;simp only [dL,Qv2,Qz2] at e;have b:=fE ((aD x).take (n-1));rw [Qq5,Qy8 (by omega)] at b;have j:(4294967296:Nat)^(n-1)=2^(32*(n-1)):=by rw [Qt8]
   rw [j] at e b;generalize (ai x)[n-1]=d at *;have o:=oX d;have q:=oW a;have s:0<bf d:=by unfold bf;rw [if_neg a];omega
   refine rB ?_ (.inr ?_)
   ·rw [Qz1];have:2^(32*(n-1))*(d+1)<=2^(32*(n-1))*2^bf d:=Qy6 _ o;rw [Qv0,Qk8] at this;omega
   ·rw [show 32*(n-1)+bf d-1=32*(n-1)+(bf d-1) from by omega,Qz1];have:2^(32*(n-1))*2^(bf d-1)<=2^(32*(n-1))*d:=Qy6 _ q;omega
  rw [key];congr 1;omega
theorem Ce {E S c t x y e Y B D:Nat}(h:E+B*D*c=S+B*x*Y)(ht:t=c+x*y+e) :
  E+B*D*(t%4294967296)+B*D*4294967296*(t / 4294967296)=S+B*D*e+B*x*(Y+D*y):=by
 have a:B*D*(t%4294967296)+B*D*4294967296*(t / 4294967296)=B*D*t:=by
  rw [Qk3 (B*D),←Qv0,Qg5]
 rw [Qv1,a,ht];grind
theorem fO {V:View}{p q:OA}{n c m e:Nat}{xa xb:List Nat}(ha:RD V p n c xa)(hb:RD V q m e xb)(hm:xa.length+xb.length<=1099511627776:=by omega) :
  aa prog 150 #[.slice p n c,.slice q m e] V fun r V'=>∃p' n' c',r=.slice p' n' c'/\RN V' p' n' c' (val xa*val xb):=by
 have la:=bd ha.ew;have lb:=bd hb.ew;refine EB p n c q m e V _ fun V1 M=>(aX (ha.le M)).mono ?_;rintro r V2 T ⟨n,rfl,o⟩;rw [aT ha.ew] at o;refine ⟨_,_,_,rfl,fun V3 N=>(aX (hb.le (M.trans (T.trans N)))).mono ?_⟩;rintro r V4 U ⟨m,rfl,C⟩;rw [aT hb.ew] at C
 replace o:=o.le (N.trans U)
 have W:=o.len;have yY:=C.len;have O:val xa=val (ai (val xa)):=(af _).symm;have P:val xb=val (ai (val xb)):=(af _).symm;rw [O,P];clear O P;generalize ai (val xa)=xs at *;generalize ai (val xb)=ys at *;refine ⟨_,_,_,rfl,?_⟩;simp (disch:=omega) only [ar,cE];have E:((n:Int)+m).toNat=n+m:=by omega
 rw [E]
 refine ⟨by omega,by omega,by omega,fun z V'=>0<=z.1/\z.1<=n/\∃es:List Nat,z.2=aE es/\es.length=n+m/\bP es /\
  val (es.take (z.1.toNat+m))=val (xs.take z.1.toNat)*val ys,fun z=>n-z.1.toNat,⟨(0,aE (List.replicate (n+m) 0)),by (try dsimp only);and_intros<;>trivial,by (try dsimp only);omega,by (try dsimp only);omega,_,rfl,by simp,bP.rep _,by simp [tM,Qr0]⟩,?_⟩
 rintro ⟨i,X⟩ V5 Q ⟨u,F,es,rfl,G,g,v⟩;dsimp only at u F v ⊢;obtain ⟨i,rfl⟩:=Qw0 u;simp only [Qq0] at v;refine ⟨by trivial,fun s=>?_,fun s=>?_⟩
 ·have s:i<n:=by simpa using s
  refine (o.le Q).rd i rfl (by omega) ?_;have yV:=o.ew.get (i:=i) (by omega)
  refine ⟨fun z V'=>0<=z.1/\z.1<=4294967295/\0<=z.2.1/\z.2.1<=m/\∃a:List Nat,z.2.2=aE a/\a.length=n+m/\bP a/\a.drop (i+z.2.1.toNat)=es.drop (i+z.2.1.toNat) /\
   val (a.take (i+z.2.1.toNat))+4294967296^(i+z.2.1.toNat)*z.1.toNat=val (es.take (i+z.2.1.toNat))+4294967296^i*xs[i]*val (ys.take z.2.1.toNat),fun z=>m-z.2.1.toNat,
   ⟨(0,0,aE es),by (try dsimp only);and_intros<;>trivial,by (try dsimp only);omega,by (try dsimp only);omega,by (try dsimp only);omega,by (try dsimp only);omega,es,rfl,G,g,rfl,by simp⟩,?_⟩
  rintro ⟨D,k,X⟩ Y R ⟨w,H,y,I,a,rfl,A,h,f,hw⟩;dsimp only at w H y I f hw ⊢;obtain ⟨k,rfl⟩:=Qw0 y;obtain ⟨D,rfl⟩:=Qw0 w;simp only [Qq0] at f hw;refine ⟨by trivial,fun d=>?_,fun d=>?_⟩
  ·have d:k<m:=by simpa using d
   refine (C.le (Q.trans R)).rd k rfl (by omega) ?_;have Z:=C.ew.get (i:=k) (by omega);have Rv:=h.get (i:=i+k) (by omega)
   have J:a[i+k]'(by omega)=es[i+k]'(by omega):=by
    have S:a[i+k]?=es[i+k]?:=by
     have:=congrArg (fun l=>l[0]?) f;simpa [Qj5] using this
    rw [Qq1 (by omega),Qq1 (by omega)] at S;exact Qm0 S
   simp (disch:=omega) only [ar];have j:((i:Int)+k).toNat=i+k:=by omega
   rw [j];refine ⟨⟨by omega,by omega⟩,((a[i+k]'(by omega):Nat):Int),by rw [Qy2,Qk8];exact fC,⟨by omega,by omega⟩,by simp;omega,by omega,?_⟩;have a0:xs[i]*ys[k]<=4294967295*4294967295:=Qm7 (by omega) (by omega);have MI:(xs[i]:Int)*(ys[k]:Int)=((xs[i]*ys[k]:Nat):Int):=by simp
   obtain ⟨t,ht⟩:∃t:Nat,t=D+xs[i]*ys[k]+a[i+k]'(by omega):=⟨_,rfl⟩;rw [Qz1] at hw;have b:=Ce hw ht
   have e1:u64.wrap ((D:Int)+u64.wrap (u64.wrap (u64.wrap (xs[i]:Int)*u64.wrap (ys[k]:Int))+u64.wrap ((a[i+k]'(by omega):Nat):Int)))=(t:Int):=by
    clear b;generalize xs[i]*ys[k]=pq at *;rw [aM (x:=(xs[i]:Int)) (by omega),aM (x:=(ys[k]:Int)) (by omega),MI,aM (x:=((pq:Nat):Int)) (by omega)];simp (disch:=omega) only [aM];omega
   rw [e1,hU,ll];refine ⟨(_,_,_),?_,by (try dsimp only);and_intros<;>trivial,?_⟩
   ·(try dsimp only);omega
   ·(try dsimp only)
    have B:((k:Int)+1).toNat=k+1:=by omega
    refine ⟨by omega,by omega,by omega,by omega,a.set (i+k) (t%4294967296),?_,by simpa using A,h.set _ _ (by omega),?_,?_⟩
    ·rw [←bw];simp
    ·rw [B,Qb3 (by omega)];have:=congrArg (List.drop 1) f;simpa [Qm6,Qf2,Qv1,Qg6] using this
    ·rw [B,show i+(k+1)=i+k+1 from by omega,aL _ _ _,az es (i+k),az ys k,←J,Qk0];have e2:((t:Int) / 4294967296).toNat=t / 4294967296:=by omega
     rw [e2,Qz1,b]
  ·have d:k=m:=by simp at d;omega
   subst d;simp (disch:=omega) only [ar];have j:((i:Int)+k).toNat=i+k:=by omega
   rw [j];refine ⟨⟨by omega,by omega⟩,by simp;omega,(_,_),?_,by (try dsimp only);and_intros<;>trivial,?_⟩
   ·(try dsimp only);omega
   ·(try dsimp only)
    have K:((i:Int)+1).toNat=i+1:=by omega
    refine ⟨by omega,by omega,a.set (i+k) D,?_,by simpa using A,h.set _ _ (by omega),?_⟩
    ·rw [←bw,pG (by omega)];simp
    ·rw [K,show i+1+k=i+k+1 from by omega,aL _ _ _,hw,v,az xs i,aq (ds:=ys)];grind
 ·have s:i=n:=by simp at s;omega
  subst s;intro Y R bk L;refine (aX (RD.bB L g (n:=i+m) (c:=i+m) (by omega) (Qq3 _))).mono ?_;rintro r V7 l7 ⟨k,rfl,d⟩;refine ⟨_,_,_,rfl,fun _ V8 l8=>⟨_,_,_,rfl,?_⟩⟩;rw [aT g] at d;rw [aq,aq] at v;rw [v] at d;exact d.le l8
theorem vD {x A d q r rest B W:Nat}(hA:A=d*B+rest)(h:d*q+r=rest*W+x):x+W*A=d*(q+W*B)+r:=by
 subst hA;grind
theorem Bx {V:View}{p:OA}{n c:Nat}{xs:List Nat}(hx:RD V p n c xs)(hm:xs.length<=1099511627776)(d:Nat)(hd0:d≠0)(hd:d<4294967296) :
  aa prog 232 #[.slice p n c,.int .u32 (d:Int)] V fun r V'=>∃p' n' c',r=.tuple #[.slice p' n' c',.int .u32 ((val xs%d:Nat):Int)]/\RN V' p' n' c' (val xs / d):=by
 have w:=hx.len;refine AQ p n c d V _ ⟨by omega,by omega,by omega,?_⟩;simp (disch:=omega) only [ar,aM,Qq0,cE]
 refine ⟨fun z V'=>0<=z.1/\z.1<d/\-1<=z.2.1/\z.2.1<n/\∃es:List Nat,z.2.2=aE es/\es.length=n/\bP es /\
   val (xs.drop (z.2.1+1).toNat)=d*val (es.drop (z.2.1+1).toNat)+z.1.toNat,fun z=>(z.2.1+1).toNat,
   ⟨(0,(n:Int)-1,aE (List.replicate n 0)),by (try dsimp only);and_intros<;>trivial,by (try dsimp only);omega,by (try dsimp only);omega,by (try dsimp only);omega,by (try dsimp only);omega,_,rfl,by simp,bP.rep _,?_⟩,?_⟩
 ·(try dsimp only)
  rw [Qx1 (by omega),Qx1 (by simp)];rfl
 rintro ⟨rest,i,G⟩ H x ⟨f,g,h,j,es,rfl,m,b,a⟩;dsimp only at f g h j a ⊢;obtain ⟨rest,rfl⟩:=Qw0 f;refine ⟨by trivial,fun e=>?_,fun e=>?_⟩
 ·have e:0<=i:=by simpa using e
  obtain ⟨i,rfl⟩:=Qw0 e;have o:((i:Int)+1).toNat=i+1:=by omega
  rw [o] at a;simp only [Qq0] at a;refine ⟨by omega,(hx.le x).rd i rfl (by omega) ?_⟩;have y:=hx.ew.get (i:=i) (by omega)
  have s:aV .or .u64 (u64.wrap ((rest:Int)*2^32)) (u64.wrap ((xs[i]:Nat):Int))=((rest*4294967296+xs[i]:Nat):Int):=by
   have A:((2:Int)^32)=4294967296:=by decide
   rw [A,aM (by omega),aM (by omega),Cj _ _ (by omega) y];omega
  rw [s]
  have t:((rest*4294967296+xs[i]:Nat):Int).tdiv (d:Int)=(((rest*4294967296+xs[i]) / d:Nat):Int):=by
   rw [Qj0 (by omega)];omega
  have B:((rest*4294967296+xs[i]:Nat):Int).tmod (d:Int)=(((rest*4294967296+xs[i])%d:Nat):Int):=by
   rw [Qz7 (by omega)];omega
  rw [t,B]
  have I:(rest*4294967296+xs[i]) / d<4294967296:=by
   rw [Qv7 (by omega)];have:rest+1<=d:=by omega
   have:=Qq7 4294967296 this;rw [Qn7 4294967296 d];omega
  have J:(rest*4294967296+xs[i])%d<d:=Qb2 _ (by omega);have C:=Qd2 (rest*4294967296+xs[i]) d;generalize (rest*4294967296+xs[i]) / d=q at *;generalize (rest*4294967296+xs[i])%d=r at *;simp (disch:=omega) only [aM,pG,ar];refine ⟨by omega,⟨by omega,by omega⟩,by simp;omega,by omega,?_⟩;refine ⟨((r:Int),(i:Int)-1,aE (es.set i q)),?_,?_,?_⟩
  ·(try dsimp only);omega
  ·(try dsimp only);and_intros<;>first|trivial|(rw [←bw];simp)
  ·(try dsimp only)
   refine ⟨by omega,by omega,by omega,by omega,_,rfl,by simpa using m,b.set _ _ (by omega),?_⟩;have u:((i:Int)-1+1).toNat=i:=by omega
   rw [u,Qw1 (by omega),Qw1 (l:=es.set i q) (by simp;omega),Qf4,Qb3 (by omega)];have D:xs[i]+4294967296*val (List.drop (i+1) xs)=d*(q+4294967296*val (List.drop (i+1) es))+r:=vD a C;rw [bg,bg,Qq0];exact D
 ·have e:i=-1:=by simp at e;omega
  subst e;simp only [Qq0] at a;have a:val xs=d*val es+rest:=by simpa using a
  intro K L M E;refine (aX (RD.bB E b (n:=n) (c:=n) (by omega) (Qq3 _))).mono ?_;rintro r N O ⟨k,rfl,v⟩;refine ⟨_,_,_,rfl,fun _ P F=>?_⟩;have s:val xs / d=val es:=by rw [a,Wy0 (by omega),Qv3 (by omega),Qz2]
  have t:val xs%d=rest:=by rw [a,Wy1,Qx9 (by omega)]
  rw [pG (by omega),s,t];rw [aT b] at v;exact ⟨_,_,_,rfl,v.le F⟩
theorem Ea (a b:Nat)(ha:a<4294967296)(hb:b<4294967296:=by omega):aV .or .u32 (a:Int) (b:Int)=((a ||| b:Nat):Int):=by
 rw [aV,hU]
 have c:(BitVec.ofInt IntKind.u32.bits ((a:Nat):Int) ||| BitVec.ofInt IntKind.u32.bits (b:Int)).toNat=a ||| b:=by
  show (BitVec.ofInt 32 ((a:Nat):Int) ||| BitVec.ofInt 32 (b:Int)).toNat=_;rw [Qj3,Qj3,Wx9,Qv6,Qv6,Qx9 (by omega),Qx9 (by omega)]
 have d:a ||| b<2^32:=Ww5 (by omega) (by omega);rw [c];omega
theorem M1 {c m r:Nat}(h:c<2^r):c ||| m*2^r=c+m*2^r:=by
 rw [Nat.or_comm,←Wx3,←Qt0 h,Qf2]
theorem CD {d r c:Nat}(hd:d<4294967296)(hr:r<32)(hc:c<2^r) :
  c ||| (d*2^r%4294967296)=c+d*2^r%4294967296/\c+d*2^r%4294967296<4294967296/\d*2^r / 4294967296<2^r/\d*2^r<18446744073709551616:=by
 have e:4294967296=2^(32-r)*2^r:=by rw [←Qz1,Qb1 (by omega)]
 have a:d*2^r%4294967296=(d%2^(32-r))*2^r:=by
  rw [e,Nat.mul_mod_mul_right]
 have f:d%2^(32-r)+1<=2^(32-r):=Qb2 _ (Qz8 _);have b:=Qq7 (2^r) f;have h:2^r<=2^31:=Qx3 (by omega) (by omega);have g:d*2^r<4294967296*2^r:=Qc0 hd (Qz8 _);refine ⟨by rw [a,M1 hc],?_,?_,by omega⟩
 ·rw [a];rw [Qz6,Qm3] at b;rw [←e] at b;omega
 ·rw [Qv7 (by omega),Qn7 (2^r)];exact g
theorem yC {V:View}{p:OA}{n c:Nat}{ds:List Nat}(h:RD V p n c ds)(hm:ds.length<=1099511627776)(k:Nat)(hk:k<=1048576:=by omega) :
  aa prog 246 #[.slice p n c,.int .u64 (k:Int)] V fun r V'=>∃p' n' c',r=.slice p' n' c'/\RN V' p' n' c' (val ds*2^k)/\(val ds=0\/c'=(ai (val ds)).length+k / 32+1):=by
 have G:=bd h.ew;refine EC p n c k V _ fun Y H=>(aX (h.le H)).mono ?_;rintro r Z l2 ⟨n,rfl,o⟩;rw [aT h.ew] at o;generalize hxv:val ds=x at *;have hl:=o.len;refine ⟨_,_,_,rfl,fun m V3 l3=>?_,fun m=>?_⟩
 ·have:ai x=[]:=Qw4.1 (by simp at m;omega);have:=bz.1 this;subst this;rw [Qd0];exact ⟨_,_,_,rfl,RD.nil,.inl rfl⟩
 ·have m:0<n:=by simp at m;omega
  have C:bN (k:Int) 1048576=k:=by unfold bN;rw [if_neg (by omega)]
  have D:(k:Int).tdiv 32=((k / 32:Nat):Int):=by rw [Qj0 (by omega)];omega
  have E:(k:Int).tmod 32=((k%32:Nat):Int):=by rw [Qz7 (by omega)];omega
  rw [C,D,E]
  have q:x*2^k=4294967296^(k / 32)*x*2^(k%32):=by
   have:2^k=4294967296^(k / 32)*2^(k%32):=by
    rw [show (4294967296:Nat)=2^32 from rfl,←Qt8,←Qz1,Qd2]
   rw [this];grind
  rw [q];generalize hw:k / 32=w at *;have s:k%32<32:=Qb2 _ (by omega);have I:w<=32768:=by omega
  generalize k%32=r at *;clear C D E;simp (disch:=omega) only [ar,aM,cE];have t:((n:Int)+w+1).toNat=n+w+1:=by omega
  rw [t]
  refine ⟨by omega,by omega,by omega,by omega,by omega,fun z V'=>0<=z.1/\z.1<=n/\∃es:List Nat,z.2=aE es/\es.length=n+w+1/\bP es/\(∀c,es[z.1.toNat+w]?=some c->c<2^r) /\
   val (es.take (z.1.toNat+w+1))=4294967296^w*val ((ai x).take z.1.toNat)*2^r,fun z=>n-z.1.toNat,
   ⟨(0,aE (List.replicate (n+w+1) 0)),by (try dsimp only);and_intros<;>trivial,by (try dsimp only);omega,by (try dsimp only);omega,_,rfl,by simp,bP.rep _,?_,?_⟩,?_⟩
  ·intro c a;rw [Qr3] at a;split at a
   ·cases a;exact Qz8 r
   ·cases a
  ·simp [Qr0,tM]
  rintro ⟨i,vs⟩ V4 J ⟨f,u,es,rfl,v,b,a,d⟩;dsimp only at f u a d ⊢;obtain ⟨i,rfl⟩:=Qw0 f;simp only [Qq0] at a d;refine ⟨by trivial,fun e=>?_,fun e=>?_⟩
  ·have e:i<n:=by simpa using e
   refine (o.le J).rd i rfl (by omega) ?_;have K:=(aD x).get (i:=i) (by omega);have y:=a (es[i+w]'(by omega)) (Qq1 _);obtain ⟨L,g2,M,g4⟩:=CD K s y
   have g:(min ((r:Nat):Int).toNat IntKind.u64.bits)=r:=by
    show min _ 64=r;omega
   have N:((2:Int)^r)=((2^r:Nat):Int):=by simp
   rw [g,N];have hmul:(((ai x)[i]:Nat):Int)*((2^r:Nat):Int)=(((ai x)[i]*2^r:Nat):Int):=by simp
   simp (disch:=omega) only [ar];rw [aM (x:=(((ai x)[i]:Nat):Int)) (by omega),hmul,aM (by omega),hU,ll];have A:((i:Int)+w).toNat=i+w:=by omega
   have O:((i:Int)+w+1).toNat=i+w+1:=by omega
   rw [A,O];refine ⟨by omega,⟨by omega,by omega⟩,((es[i+w]'(by omega):Nat):Int),by rw [Qy2,Qk8];exact fC,⟨by omega,by omega⟩,by simp;omega,by omega,⟨by omega,by omega⟩,by simp;omega,?_⟩;have P:(((ai x)[i]*2^r:Nat):Int)%4294967296=(((ai x)[i]*2^r%4294967296:Nat):Int):=by omega
   have Q:(((ai x)[i]*2^r:Nat):Int) / 4294967296=(((ai x)[i]*2^r / 4294967296:Nat):Int):=by omega
   rw [P,Q,Ea _ _ (by omega),L];have R:=Qg5 ((ai x)[i]*2^r) 4294967296;have S:(ai x)[i]*2^r / 4294967296<4294967296:=by omega
   have B:val (List.take (i+1) (ai x))=val (List.take i (ai x))+4294967296^i*(ai x)[i]:=az _ _;have T:val (es.take (i+w+1))=val (es.take (i+w))+4294967296^(i+w)*es[i+w]'(by omega):=az _ _;generalize (ai x)[i]*2^r%4294967296=lo at *;generalize hhi:(ai x)[i]*2^r / 4294967296=hi at *;rw [pG (by omega)];refine ⟨((i:Int)+1,aE ((es.set (i+w) (es[i+w]'(by omega)+lo)).set (i+w+1) hi)),?_,?_,?_⟩
   ·(try dsimp only);omega
   ·(try dsimp only);and_intros<;>first|trivial|(rw [←bw,←bw];simp)
   ·(try dsimp only)
    have j:((i:Int)+1).toNat=i+1:=by omega
    refine ⟨by omega,by omega,_,rfl,by simpa using v,(b.set _ _ (by omega)).set _ _ (by omega),?_,?_⟩
    ·intro c l;rw [j,show i+1+w=i+w+1 from by omega,Qs0 (by simp;omega)] at l;cases l;exact M
    ·rw [j,show i+1+w+1=i+w+1+1 from by omega,aL _ _ _ (by simp;omega),aL _ _ _,B];rw [T] at d;have U:4294967296^(i+w+1)*hi=4294967296^(i+w)*(4294967296*hi):=by rw [Qk0];grind
     rw [U,Qv0,←Qv1,d,Qv1,←Qv0,R,Qz1];grind
  ·have e:i=n:=by simp at e;omega
   subst e;intro V5 l5 bk W;refine (aX (RD.bB W b (n:=i+w+1) (c:=i+w+1) (by omega) (Qq3 _))).mono ?_;rintro r' V6 l6 ⟨k',rfl,F⟩;refine ⟨_,_,_,rfl,fun _ V7 X=>⟨_,_,_,rfl,?_,.inr (by omega)⟩⟩;rw [aq,aq,af] at d;rw [aT b,d] at F;exact F.le X
theorem CE {d Y r:Nat}(hd:d<4294967296)(hr:r<32) :
  (d+4294967296*Y) / 2^r=(d+4294967296*(Y%4294967296)) / 2^r%4294967296+4294967296*(Y / 2^r):=by
 have e:4294967296=2^r*2^(32-r):=by rw [←Qz1,Nat.add_sub_cancel' (by omega)]
 have c:=Qz8 r;have l:=Qz8 (32-r);generalize ha:2^r=a at *;generalize hb:2^(32-r)=b at *
 have f:∀Z,(d+4294967296*Z) / a=d / a+b*Z:=by
  intro Z;rw [e,Qk3,Qf9 _ _ c]
 rw [f,f]
 have g:d / a<b:=by
  rw [Qv7 c,Qn7,←e];exact hd
 have h:b*(Y%4294967296)%4294967296=b*(Y%a):=by
  rw [e,Qn7 a b,Nat.mul_mod_mul_left,Nat.mod_mul_left_mod]
 have m:b*(Y%a)+b<=4294967296:=by
  have:Y%a+1<=a:=Qb2 _ c;have:=Qy6 b this;rw [Qv0,Qk8,Qn7 b a,←e] at this;exact this
 have i:(d / a+b*(Y%4294967296))%4294967296=d / a+b*(Y%a):=by
  rw [Nat.add_mod,h,Qx9 (a:=d / a) (by omega),Qx9 (by omega)]
 rw [i];have j:=Qg5 Y a
 have k:b*Y=b*(Y%a)+4294967296*(Y / a):=by
  conv=>lhs;rw [←j]
  rw [Qv0,←Qk3,Qn7 b a,←e]
 rw [k];omega
theorem pH {xs:List Nat}(h:bP xs)(i:Nat):val (xs.drop i)%4294967296=(xs[i]?).getD 0:=by
 rcases Qy9 i xs.length with a|a
 ·rw [Qw1 a,bg,Qq1 a,Qc5,Ww2,Qx9 (h.get a)]
 ·rw [Qx1 a,Qk6 a];rfl
theorem F5 {V:View}{p:OA}{n c:Nat}{ds:List Nat}(h:RD V p n c ds)(hm:ds.length<=1099511627776)(k:Nat)(hk:k<18446744073709551616:=by omega) :
  aa prog 247 #[.slice p n c,.int .u64 (k:Int)] V fun r V'=>∃p' n' c',r=.slice p' n' c'/\RN V' p' n' c' (val ds / 2^k):=by
 have T:=bd h.ew;refine ED p n c k V _ fun V1 U=>(aX (h.le U)).mono ?_;rintro r V2 l2 ⟨n,rfl,B⟩;rw [aT h.ew] at B;generalize val ds=x at *;have hl:=B.len;have P:(k:Int).tdiv 32=((k / 32:Nat):Int):=by rw [Qj0 (by omega)];omega
 have C:(k:Int).tmod 32=((k%32:Nat):Int):=by rw [Qz7 (by omega)];omega
 refine ⟨_,_,_,rfl,?_⟩;rw [P,C]
 have q:x / 2^k=x / 4294967296^(k / 32) / 2^(k%32):=by
  rw [Nat.div_div_eq_div_mul,show (4294967296:Nat)=2^32 from rfl,←Qt8,←Qz1,Qd2]
 rw [q];have W:k / 32<576460752303423488:=by omega
 generalize k / 32=w at *;have E:k%32<32:=Qb2 _ (by omega);generalize k%32=r at *;clear P C q;refine ⟨by omega,fun j V3 l3=>?_,fun j=>?_⟩
 ·have j:n<=w:=by
   rw [aM (by omega),aM (by omega)] at j;simp at j;omega
  have:x / 4294967296^w=0:=Qv3 (Qx7 (aG.1 (Qq3 _)) (Qx3 (by omega) (by omega)));rw [this,Wy2];exact ⟨_,_,_,rfl,RD.nil⟩
 ·have j:w<n:=by
   rw [aM (by omega),aM (by omega)] at j;simp at j;omega
  simp (disch:=omega) only [ar,aM,cE];have F:((n:Int)-w).toNat=n-w:=by omega
  rw [F]
  have G:x / 4294967296^w=val ((ai x).drop w):=by
   have e:val (ai x)=val ((ai x).take w++(ai x).drop w):=by rw [Qj4]
   have s:=fE ((aD x).take w);rw [cR,af] at e;rw [Qq5,Qy8 (by omega)] at e s
   have g:∀y,y=val ((ai x).take w)+4294967296^w*val ((ai x).drop w)->y / 4294967296^w=val ((ai x).drop w):=by
    intro y X;rw [X,Qf9 _ _ (Qr1 (by omega)),Qv3 s,Qy2]
   exact g x e
  rw [G]
  refine ⟨by omega,by omega,by omega,by omega,by omega,fun z V'=>0<=z.1/\z.1<=(n-w:Nat)/\∃es:List Nat,z.2=aE es/\es.length=n-w/\bP es /\
   val (es.take z.1.toNat)+4294967296^z.1.toNat*(val ((ai x).drop (w+z.1.toNat)) / 2^r)=val ((ai x).drop w) / 2^r,fun z=>(n-w)-z.1.toNat,
   ⟨(0,aE (List.replicate (n-w) 0)),by (try dsimp only);and_intros<;>trivial,by (try dsimp only);omega,by (try dsimp only);omega,_,rfl,by simp,bP.rep _,by simp⟩,?_⟩
  rintro ⟨i,vs⟩ V4 Q ⟨t,H,es,rfl,I,m,b⟩;dsimp only at t H b ⊢;obtain ⟨i,rfl⟩:=Qw0 t;simp only [Qq0] at b;refine ⟨by trivial,fun u=>?_,fun u=>?_⟩
  ·have u:i<n-w:=by simpa using u
   simp (disch:=omega) only [ar];refine (B.le Q).rd (w+i) (by omega) (by omega) ?_;have R:=(aD x).get (i:=w+i) (by omega);have v:=CE (Y:=val ((ai x).drop (w+i+1))) R E;rw [pH (aD x)] at v
   have d:(min ((r:Nat):Int).toNat IntKind.u64.bits)=r:=by
    show min _ 64=r;omega
   have o:val ((ai x).drop (w+i))=(ai x)[w+i]+4294967296*val ((ai x).drop (w+i+1)):=by
    rw [Qw1 (by omega),bg]
   rw [o] at b;rw [v] at b
   have S:∀D:Nat,D=((ai x)[w+i]+4294967296*((ai x)[w+i+1]?).getD 0) / 2^r%4294967296 ->
     ∃a:List Nat,(aE es).set (0+i*1) (.int .u32 (D:Int))=aE a/\a.length=n-w/\bP a /\
     val (a.take (i+1))+4294967296^(i+1)*(val ((ai x).drop (w+(i+1))) / 2^r)=val ((ai x).drop w) / 2^r:=by
    intro D Z;refine ⟨es.set i D,by rw [←bw];simp,by simpa using I,m.set _ _ (by omega),?_⟩;rw [aL _ _ _,←b,Z,Qk0,Qv0,Qv1,Qk3,Qv1 w i 1]
   have A:((i:Int)+1).toNat=i+1:=by omega
   refine ⟨fun f=>?_,fun f=>?_⟩
   ·have f:w+i+1<n:=by simp at f;omega
    refine (B.le Q).rd (w+i+1) (by omega) (by omega) ?_;have J:=(aD x).get (i:=w+i+1) (by omega)
    have K:aV .or .u64 (u64.wrap (((ai x)[w+i]:Nat):Int)) (u64.wrap (u64.wrap (((ai x)[w+i+1]:Nat):Int)*2^32))=(((ai x)[w+i]+4294967296*((ai x)[w+i+1]?).getD 0:Nat):Int):=by
     have C:((2:Int)^32)=4294967296:=by decide
     rw [C,aM (by omega),aM (x:=(((ai x)[w+i+1]:Nat):Int)) (by omega),aM (by omega),IH _ _ J R,Qq1 (by omega),Qc5];omega
    rw [K,d,fq,hU];refine ⟨by omega,by omega,⟨by omega,by omega⟩,by simp;omega,?_⟩;obtain ⟨a,L,M,N,O⟩:=S _ rfl;refine ⟨((i:Int)+1,aE a),?_,?_,?_⟩
    ·(try dsimp only);omega
    ·(try dsimp only);and_intros<;>first|trivial|(rw [←L];simp)
    ·(try dsimp only)
     exact ⟨by omega,by omega,a,rfl,M,N,by rw [A];exact O⟩
   ·have f:n<=w+i+1:=by simp at f;omega
    have K:u64.wrap (((ai x)[w+i]:Nat):Int)=(((ai x)[w+i]+4294967296*((ai x)[w+i+1]?).getD 0:Nat):Int):=by
     rw [aM (by omega),Qk6 (by omega)];simp
    rw [K,d,fq,hU];refine ⟨by omega,⟨by omega,by omega⟩,by simp;omega,?_⟩;obtain ⟨a,L,M,N,O⟩:=S _ rfl;refine ⟨((i:Int)+1,aE a),?_,?_,?_⟩
    ·(try dsimp only);omega
    ·(try dsimp only);and_intros<;>first|trivial|(rw [←L];simp)
    ·(try dsimp only)
     exact ⟨by omega,by omega,a,rfl,M,N,by rw [A];exact O⟩
  ·have u:i=n-w:=by simp at u;omega
   intro V5 l5 bk hb;refine (aX (RD.bB hb m (n:=n-w) (c:=n-w) (by omega) (Qq3 _))).mono ?_;rintro r' V6 l6 ⟨k',rfl,f⟩;refine ⟨_,_,_,rfl,fun _ V7 l7=>⟨_,_,_,rfl,?_⟩⟩;rw [aq,Qx1 (l:=ai x) (i:=w+i) (by omega)] at b
   have b:val es=val ((ai x).drop w) / 2^r:=by
    rw [←b,dL,Wy2,Qv2,Qz2]
   rw [aT m,b] at f;exact f.le l7
end Go.Proofs.Tryz
namespace Go.Big
theorem Gk {v1 v2 v' u0 u1 u2 t' B W G ρ T Y:Nat}(hY:Y=(v1*W+v2)*B+v')(hT:T=((u0*W+u1)*W+u2)*B+t')(ht:t'<B)
  (hg:G*v1+ρ=u0*W+u1)(hd:ρ*W+u2<G*v2):T<G*Y:=by
 have a:(u0*W+u1)*W+u2+1<=G*(v1*W+v2):=by
  rw [←hg,Qv0,Qz6,←Qk3];omega
 have b:=Qq7 B a;have c:G*(v1*W+v2)*B<=G*Y:=by rw [hY,Qk3];exact Qy6 _ (Nat.le_add_right _ _)
 rw [Qz6,Qm3] at b;omega
theorem yT {v1 v2 v' u0 u1 u2 t' B W G ρ T Y:Nat}(hY:Y=(v1*W+v2)*B+v')(hT:T=((u0*W+u1)*W+u2)*B+t')(hv:v'<B)(hv1:1<=v1)(hW:0<W)
  (hg:G*v1+ρ=u0*W+u1)(hd:G*v2<=ρ*W+u2)(hG:G<=W:=by omega):G*Y<T+Y:=by
 have a:G*(v1*W+v2)<=(u0*W+u1)*W+u2:=by
  rw [←hg,Qv0,Qz6,←Qk3];omega
 have d:=Qq7 B a;have e:G*v'<=W*v':=Qq7 _ hG;have f:W*v'<W*B:=Nat.mul_lt_mul_of_pos_left hv hW
 have g:W*B<=v1*W*B:=by
  have:=Qq7 (W*B) hv1;rw [Qm3,←Qk3] at this;exact this
 have b:(v1*W+v2)*B=v1*W*B+v2*B:=Qz6 _ _ _;have c:G*Y=G*(v1*W+v2)*B+G*v':=by rw [hY,Qv0,Qk3]
 rw [c,hY,b];omega
theorem yU {v1 v2 v' u0 u1 u2 t' B W T Y:Nat}(hY:Y=(v1*W+v2)*B+v')(hT:T=((u0*W+u1)*W+u2)*B+t')(hv:v'<B)(h:T<W*Y):u0*W+u1<=v1*W+v2:=by
 rcases Qy9 (v1*W+v2) (u0*W+u1) with a|a
 ·exfalso;have b:(v1*W+v2+1)*W<=(u0*W+u1)*W:=Qq7 _ a;have c:=Qq7 B b
  have d:W*Y<=W*((v1*W+v2+1)*B):=by
   rw [hY,Qz6 (v1*W+v2) 1 B,Qm3];exact Qy6 _ (by omega)
  have e:W*((v1*W+v2+1)*B)=(v1*W+v2+1)*W*B:=by grind
  have f:(u0*W+u1)*W*B<=T:=by rw [hT,Qz6 ((u0*W+u1)*W) u2 B];omega
  omega
 ·exact a
theorem HX {v1 v2 v' u0 u1 u2 t' B W G ρ T Y:Nat}(hY:Y=(v1*W+v2)*B+v')(hT:T=((u0*W+u1)*W+u2)*B+t')(ht:t'<B)(hu:u2<W)
  (hg:G*v1+ρ=u0*W+u1)(hr:ρ<v1):T<(G+1)*Y:=by
 have a:u0*W+u1+1<=(G+1)*v1:=by rw [Qz6,Qm3];omega
 have d:=Qq7 (W*B) a
 have e:(G+1)*v1*(W*B)<=(G+1)*Y:=by
  rw [hY,Qk3];refine Qy6 _ ?_;rw [←Qk3,Qz6];omega
 have f:((u0*W+u1)*W+u2)*B+t'<(u0*W+u1+1)*(W*B):=by
  have b:(u2+1)*B<=W*B:=Qq7 _ hu;rw [Qz6,Qm3] at b;have c:(u0*W+u1+1)*(W*B)=(u0*W+u1)*W*B+W*B:=by grind
  rw [c,Qz6 ((u0*W+u1)*W) u2 B];omega
 omega
theorem zw {F U c b g d u Y W S:Nat}{x:Int}(h:F+W*(g*Y)=U+W*S*(c+b))(hc:c<4294967296)(hb:b<=1)(hu:u<4294967296)
  (hx:x=((u:Int)-((c+g*d)%4294967296:Nat)-b)%18446744073709551616) :
  0<=x/\0<=x / 9223372036854775808/\x / 9223372036854775808<=1 /\
  F+W*S*(x%4294967296).toNat+W*(g*(Y+S*d))=U+W*S*u+W*(S*4294967296)*((c+g*d) / 4294967296+(x / 9223372036854775808).toNat):=by
 have n:=Qg5 (c+g*d) 4294967296;have hm:(c+g*d)%4294967296<4294967296:=Qb2 _ (by omega);generalize (c+g*d) / 4294967296=q at *;generalize (c+g*d)%4294967296=m at *
 have key:∃o B:Nat,(x%4294967296).toNat=o/\(x / 9223372036854775808).toNat=B/\u+4294967296*B=o+m+b/\0<=x/\0<=x / 9223372036854775808/\x / 9223372036854775808<=1:=by
  refine ⟨_,_,rfl,rfl,?_,by omega,by omega,by omega⟩;omega
 obtain ⟨o,B,a,e,p,f,i,j⟩:=key;refine ⟨f,i,j,?_⟩;rw [a,e];have k:u+4294967296*(B+q)=o+b+(c+g*d):=by omega
 have l:W*S*u+W*(S*4294967296)*(q+B)=W*S*(u+4294967296*(B+q)):=by grind
 rw [Qv1 U,l,k];grind
theorem ym {F U c d u Y W S t:Nat}(h:F+W*S*c=U+W*Y)(ht:t=c+u+d:=by omega) :
  F+W*S*(t%4294967296)+W*(S*4294967296)*(t / 4294967296)=U+W*S*u+W*(Y+S*d):=by
 have a:W*S*(t%4294967296)+W*(S*4294967296)*(t / 4294967296)=W*S*t:=by
  have:=Qg5 t 4294967296;have e:W*(S*4294967296)*(t / 4294967296)=W*S*(4294967296*(t / 4294967296)):=by grind
  rw [e,←Qv0,this]
 rw [Qv1,a,ht];grind
end Go.Big
