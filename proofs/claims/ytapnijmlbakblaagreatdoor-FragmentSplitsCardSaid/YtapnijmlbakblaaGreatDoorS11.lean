import Derived.Test.YtapnijmlbakblaaGreatDoorS6
import Derived.Test.YtapnijmlbakblaaGreatDoorCards
import Derived.Test.YtapnijmlbakblaaGreatDoorTie
import Derived.WalkKit
import Derived.ProofKit
import Derived.OpenShut
import Derived.Deep.DeepHandedRow
import Derived.LaidLaws
import Derived.Lay
import Derived.Carry
import Derived.IntWalk
import Derived.Test.YtapnijmlbakblaaGreatDoorS7
set_option linter.unusedVariables false
open Go.IntKind (i64 u64 u32)
namespace Go.Proofs.YtapnijmlbakblaaGreatDoor
open Go.ChangeShapes Go.WideShapes Go.ChangeAt Go.RowKit Go.Eng
theorem own:ownKnob Tryz.prog.godebug=none:=by kernel_rfl
def View.all (W:World):View:=⟨W,fun _=>False,fun _=>False,fun _ h=>h.elim,fun _ h=>h⟩
theorem CW {w w':World}(h:il (fun _=>False) w w')(may:MemPlace->Prop):w.keptBut w' may:=by
 refine ⟨h.os,h.out,fun i a=>?_⟩;rw [h.bw i a (fun h=>h)]
 cases w.heap[i]? with
 | none=>rfl
 | some o=>cases o<;>simp
theorem xV {f:FuncId}{args:Array Value}{W:World}{R:Value->Prop}(h:ae Tryz.prog f args (View.all W) fun r _=>R r):Calls Tryz.prog f args W fun e w'=>∃r,e=.returned r/\R r/\il (fun _=>False) W w':=
 h.2.mono fun e w' ⟨r,he,a,b⟩=>⟨r,he,b,a⟩
theorem laidOut:laidOutB Tryz.prog=true:=by kernel_rfl
theorem Az {w w':World}(h:il (fun _=>False) w w'):Below w.heap.size w w':=⟨h.os,h.tape,h.out,h.size,fun k a=>h.bw k a (fun h=>h)⟩
theorem Hc {P:Program}(hlo:laidOutB P=true){H:Type}{enc:TypeId×Value->H}{W W':World}(hb:Below W.heap.size W W')(ts:List TypeId):∀{vs:List Value} {ds:List (DataW H)} {ps:List MemPlace},
  (ts.all fun t=>P.readableRec t&&decide (t<P.types.size))=true->DataW.TrodAll enc P W 0 (fun _=>true) true ts vs ds ps->(∀x∈ps,x.block<W.heap.size) ->
   DataW.TrodAll enc P W' 0 (fun b=>decide (b<W.heap.size)) true ts vs ds ps:=by
 induction ts with
 | nil=>
  intro vs ds ps _ h _;obtain ⟨rfl,rfl,rfl⟩:=trodAll_nil h;exact trodAll_mk0
 | cons t ts ih=>
  intro vs ds ps c h a;obtain ⟨v,f,d,g,p,q,rfl,rfl,rfl,i,j⟩:=trodAll_cons h;simp only [List.all_cons,Bool.and_eq_true,decide_eq_true_eq] at c;exact trodAll_cons_mk (Below.trod hlo c.1.1 c.1.2 i hb fun x e=>a x (List.mem_append_left _ e)) (ih c.2 j fun x e=>a x (List.mem_append_right _ e))
set_option maxRecDepth 100000 in
theorem Mk {H:Type}{enc:TypeId×Value->H}{XS:FuncId}{f:Func}{s:ChangeSpec}{W:World}{args:Array Value}{ds gs:List (DataW H)}{before:List MemPlace}{fresh handsOn:Bool}
  (hW:DataW.Whole enc Tryz.prog f.params.toList s.vars false W args.toList ds gs before)(hvars:s.vars=[])(hts:(f.params.toList.all fun t=>Tryz.prog.readableRec t&&decide (t<Tryz.prog.types.size))=true)
  (hres:f.resultTypes=#[4])(hs:s.fn H (ds++gs)={ results:=[.lit (.bool true)],args:=ds })
  (h:ae Tryz.prog XS args (View.all W) fun r _=>r=.bool true):Calls Tryz.prog XS args W fun e W'=>∃v,e=.returned v/\s.post enc Tryz.prog f false fresh handsOn false W args v W':=by
 refine (xV h).mono fun e W' ⟨r,he,g,a⟩=>?_;subst he g;have b:=hW;obtain ⟨p,q,i,d,rfl,-,-⟩:=hW;rw [hvars] at d;obtain ⟨rfl,rfl⟩:=trodVars_none d;have c:∀x∈p++[],x.block<W.heap.size:=fun x a=>b.lt x a;refine ⟨_,rfl,ds,_,p++[],[],p++[],[],b,?_,?_,?_,CW a _,fun h=>nomatch h⟩
 ·rw [hs,hres];exact trodAll_cons_mk (shut_bool Tryz.underlying4 _) trodAll_mk0
 ·rw [hs,List.append_nil];exact Hc laidOut (Az a) _ hts i fun x a=>c x (by rw [List.append_nil];exact a)
 ·rw [hs,hvars];rfl
set_option maxRecDepth 100000 in
theorem Dl {H:Type}{enc:TypeId×Value->H}{W:World}{p:OA}{n c:Nat}{d:DataW H}{ps:List MemPlace}
  (h:DataW.Trod enc Tryz.prog W 0 (fun _=>true) true 22 (.slice p n c) d ps):n<=c/\∀i,i<n->∃(a:Addr)(x:Int),ah p (i*1)=some a/\(View.all W).at a (.int .i64 x):=by
 obtain ⟨fuel,k⟩:=h;rcases open_ints Tryz.underlying22 Tryz.underlying3 (show Tryz.prog.cellsOf 3=1 by kernel_rfl) k with ⟨b,-⟩|⟨a,f,g,o,b,_,l,-,m,-,e,-⟩
 ·simp [Value.cells] at b;obtain ⟨rfl,rfl,rfl⟩:=b;exact ⟨Nat.le_refl _,fun i j=>absurd j (by omega)⟩
 ·simp [Value.cells] at b;obtain ⟨rfl,rfl,rfl⟩:=b;simp only [if_true] at m;exact ⟨l,fun i j=>⟨a.add i,_,by rw [Nat.mul_one];rfl,fun h=>h,e i (by omega)⟩⟩
end Go.Proofs.YtapnijmlbakblaaGreatDoor
namespace Go.Big
def val:List Nat->Nat
 | []=>0
 | d::r=>d+4294967296*val r
def bV (ds:List Nat):Prop:=∀d∈ds,d<4294967296
def cg:List Nat->List Nat
 | []=>[]
 | d::r=>if cg r=[]/\d=0 then [] else d::cg r
def tm (ds:List Nat):Prop:=cg ds=ds
def vi:Nat->Nat->List Nat
 | 0,_=>[]
 | f+1,n=>if n=0 then [] else n%4294967296::vi f (n / 4294967296)
def ai (n:Nat):List Nat:=vi n n
@[simp] theorem eA:val []=0:=rfl
@[simp] theorem bq (d:Nat)(r:List Nat):val (d::r)=d+4294967296*val r:=rfl
theorem bV.nil:bV []:=fun _ h=>nomatch h
theorem bV.cons {d:Nat}{r:List Nat}:bV (d::r)↔d<4294967296/\bV r:=by simp [bV]
theorem bV.append {a b:List Nat}:bV (a++b)↔bV a/\bV b:=by simp [bV,or_imp,forall_and]
theorem bV.take {a:List Nat}(h:bV a)(k:Nat):bV (a.take k):=fun d b=>h d (List.mem_of_mem_take b)
theorem bV.drop {a:List Nat}(h:bV a)(k:Nat):bV (a.drop k):=fun d b=>h d (List.mem_of_mem_drop b)
theorem bV.set {a:List Nat}(h:bV a)(k x:Nat)(hx:x<4294967296):bV (a.set k x):=fun d c=>by
 rcases List.mem_or_eq_of_mem_set c with b|b
 ·exact h d b
 ·exact b▸hx
theorem bV.get {a:List Nat}(h:bV a){i:Nat}(hi:i<a.length):a[i]<4294967296:=h _ (List.getElem_mem hi)
theorem bV.rep (n:Nat):bV (List.replicate n 0):=fun d a=>by rw [List.eq_of_mem_replicate a];omega
theorem df (a b:List Nat):val (a++b)=val a+4294967296^a.length*val b:=by
 induction a with
 | nil=>simp
 | cons d r ih=>simp only [List.cons_append,bq,ih,List.length_cons,Nat.pow_succ];grind
theorem gj {ds:List Nat}(h:bV ds):val ds<4294967296^ds.length:=by
 induction ds with
 | nil=>simp
 | cons d r ih=>
  have a:=bV.cons.1 h;have:=ih a.2;have c:=a.1;simp only [bq,List.length_cons,Nat.pow_succ];have b:val r+1<=4294967296^r.length:=this;have e:=Nat.mul_le_mul_left 4294967296 b;omega
theorem uz (n:Nat):val (List.replicate n 0)=0:=by
 induction n with
 | zero=>rfl
 | succ n ih=>simp [List.replicate_succ,ih]
theorem au (ds:List Nat)(i:Nat)(h:i<ds.length):val (ds.take (i+1))=val (ds.take i)+4294967296^i*ds[i]:=by
 rw [List.take_succ_eq_append_getElem h,df];simp [List.length_take,Nat.min_eq_left (Nat.le_of_lt h)]
theorem aq {ds:List Nat}{i:Nat}(h:ds.length<=i):val (ds.take i)=val ds:=by rw [List.take_of_length_le h]
theorem yk (ds:List Nat)(i x:Nat)(h:i<ds.length):(ds.set i x).take (i+1)=ds.take i++[x]:=by
 rw [List.take_succ_eq_append_getElem (by simpa using h),List.take_set,List.set_eq_of_length_le (by simp;omega)];simp
theorem aJ (ds:List Nat)(i x:Nat)(h:i<ds.length):val ((ds.set i x).take (i+1))=val (ds.take i)+4294967296^i*x:=by
 rw [yk ds i x h,df];simp [List.length_take,Nat.min_eq_left (Nat.le_of_lt h)]
theorem ia (r:List Nat):cg (r++[0])=cg r:=by
 induction r with
 | nil=>simp [cg]
 | cons d r ih=>simp only [List.cons_append,cg,ih]
theorem oV (r:List Nat)(d:Nat)(h:d≠0):cg (r++[d])=r++[d]:=by
 induction r with
 | nil=>simp [cg,h]
 | cons x r ih=>simp [List.cons_append,cg,ih]
theorem Ib (ds:List Nat):val (cg ds)=val ds:=by
 induction ds with
 | nil=>rfl
 | cons d r ih=>
  simp only [cg];split
  ·rename_i h;rw [bq,←ih,h.1,h.2];rfl
  ·simp [ih]
theorem ky (ds:List Nat):(cg ds).length<=ds.length:=by
 induction ds with
 | nil=>simp [cg]
 | cons d r ih=>simp only [cg];split<;>simp<;>omega
theorem H_ (ds:List Nat):cg ds=ds.take (cg ds).length:=by
 induction ds with
 | nil=>rfl
 | cons d r ih=>
  simp only [cg];split
  ·rfl
  ·simp only [List.length_cons,List.take_succ_cons];rw [←ih]
theorem bV.trim {ds:List Nat}(h:bV ds):bV (cg ds):=by rw [H_];exact h.take _
theorem DH (ds:List Nat):tm (cg ds):=by
 unfold tm
 induction ds with
 | nil=>rfl
 | cons d r ih=>
  rw [cg];split
  ·rfl
  ·rename_i h;rw [cg,ih,if_neg h]
theorem tm.tail {d:Nat}{r:List Nat}(h:tm (d::r)):tm r:=by
 unfold tm at h ⊢;simp only [cg] at h;split at h
 ·cases h
 ·injection h
theorem tm.zero {ds:List Nat}(h:tm ds)(hv:val ds=0):ds=[]:=by
 induction ds with
 | nil=>rfl
 | cons d r ih=>
  have a:=ih h.tail (by simp at hv;omega);subst a;simp at hv;subst hv;simp [tm,cg] at h
theorem pM:∀(f n:Nat),n<=f->val (vi f n)=n/\bV (vi f n)/\tm (vi f n)
 | 0,n,h=>⟨by simp [vi];omega,bV.nil,rfl⟩
 | f+1,n,h=>by
  simp only [vi];split
  ·subst_vars;exact ⟨rfl,bV.nil,rfl⟩
  ·obtain ⟨h1,h2,h3⟩:=pM f (n / 4294967296) (by omega);refine ⟨by rw [bq,h1];omega,bV.cons.2 ⟨by omega,h2⟩,?_⟩;unfold tm at h3 ⊢;rw [cg,h3,if_neg];rintro ⟨a,b⟩;rw [a] at h1;simp at h1;omega
theorem af (n:Nat):val (ai n)=n:=(pM n n (Nat.le_refl _)).1
theorem aA (n:Nat):bV (ai n):=(pM n n (Nat.le_refl _)).2.1
theorem je (n:Nat):tm (ai n):=(pM n n (Nat.le_refl _)).2.2
theorem tm.ext:∀{a b:List Nat},bV a->bV b->tm a->tm b->val a=val b->a=b
 | [],b,_,_,_,hb,h=>(hb.zero (by rw [←h];rfl)).symm
 | d::r,[],_,_,ha,_,h=>by have:=ha.zero h;cases this
 | d::r,e::s,ha,hb,na,nb,h=>by
  have f:=(bV.cons.1 ha).1;have g:=(bV.cons.1 hb).1;simp only [bq] at h;have:val r=val s:=by omega
  have c:=tm.ext (bV.cons.1 ha).2 (bV.cons.1 hb).2 na.tail nb.tail this;have:d=e:=by omega
  subst this;rw [c]
theorem vj {ds:List Nat}(h:bV ds)(hn:tm ds):ai (val ds)=ds:=tm.ext (aA _) h (je _) hn (af _)
theorem aR {ds:List Nat}(h:bV ds):cg ds=ai (val ds):=by
 rw [←Ib,vj h.trim (DH _)]
theorem pN {a b:Nat}(h:ai a=ai b):a=b:=by rw [←af a,h,af]
@[simp] theorem zF:ai 0=[]:=rfl
theorem bH {n:Nat}:ai n=[]↔n=0:=⟨fun h=>pN (by rw [h];rfl),fun h=>h▸rfl⟩
theorem tm.last {ds:List Nat}(h:tm ds)(hl:0<ds.length):ds[ds.length-1]≠0:=by
 intro e
 have a:ds=ds.take (ds.length-1)++[ds[ds.length-1]]:=by
  rw [←List.take_succ_eq_append_getElem (by omega),Nat.sub_add_cancel hl,List.take_length]
 rw [e] at a;have b:cg ds=ds:=h;rw [a,ia] at b;have:=ky (ds.take (ds.length-1));rw [b] at this;simp at this;omega
theorem C7 {ds:List Nat}(h:∀hl:0<ds.length,ds[ds.length-1]≠0):tm ds:=by
 rcases Nat.eq_zero_or_pos ds.length with e|e
 ·rw [List.length_eq_zero_iff.1 e];rfl
 ·have a:ds=ds.take (ds.length-1)++[ds[ds.length-1]]:=by
   rw [←List.take_succ_eq_append_getElem (by omega),Nat.sub_add_cancel e,List.take_length]
  have:=oV (ds.take (ds.length-1)) _ (h e);rw [←a] at this;exact this
theorem KX {ds:List Nat}(h:tm ds)(hl:0<ds.length):4294967296^(ds.length-1)<=val ds:=by
 have a:ds=ds.take (ds.length-1)++[ds[ds.length-1]]:=by
  rw [←List.take_succ_eq_append_getElem (by omega),Nat.sub_add_cancel hl,List.take_length]
 have b:=h.last hl;rw [a,df];simp only [bq,eA,List.length_take];rw [Nat.min_eq_left (by omega)];simp only [List.length_append,List.length_take,List.length_singleton];rw [Nat.min_eq_left (by omega),Nat.sub_add_cancel hl];have:4294967296^(ds.length-1)*1<=4294967296^(ds.length-1)*(ds[ds.length-1]+4294967296*0):=Nat.mul_le_mul_left _ (by omega);omega
theorem aD {n k:Nat}:(ai n).length<=k↔n<4294967296^k:=by
 constructor
 ·intro h;have:=gj (aA n);rw [af] at this;exact Nat.lt_of_lt_of_le this (Nat.pow_le_pow_right (by omega) h)
 ·intro h;rcases Nat.lt_or_ge k (ai n).length with a|a
  ·have:=KX (je n) (by omega);rw [af] at this;have b:4294967296^k<=4294967296^((ai n).length-1):=Nat.pow_le_pow_right (by omega) (by omega);omega
  ·exact a
theorem sG {n k:Nat}:k<(ai n).length↔4294967296^k<=n:=by
 have:=@aD n k;omega
theorem gJ (ds:List Nat)(i:Nat)(h:i<ds.length):val ds=val (ds.take i)+4294967296^i*(ds[i]+4294967296*val (ds.drop (i+1))):=by
 have a:val ds=val (ds.take i++ds.drop i):=by rw [List.take_append_drop]
 rw [a,df,List.drop_eq_getElem_cons h];simp only [List.length_take,Nat.min_eq_left (Nat.le_of_lt h),bq]
theorem jD {a b:List Nat}{i:Nat}(ha:bV a)(hi:i<a.length)(hj:i<b.length)(hd:a.drop (i+1)=b.drop (i+1))(hl:a[i]<b[i]):val a<val b:=by
 rw [gJ a i hi,gJ b i hj,hd];have c:=gj (ha.take i);simp only [List.length_take,Nat.min_eq_left (Nat.le_of_lt hi)] at c;have d:4294967296^i*(a[i]+4294967296*val (b.drop (i+1))+1)<=4294967296^i*(b[i]+4294967296*val (b.drop (i+1))):=Nat.mul_le_mul_left _ (by omega);rw [Nat.mul_add,Nat.mul_one] at d;omega
theorem kn {a b:Nat}(h:(ai a).length<(ai b).length):a<b:=by
 have c:=gj (aA a);have d:=KX (je b) (by omega);rw [af] at c d;have e:4294967296^(ai a).length<=4294967296^((ai b).length-1):=Nat.pow_le_pow_right (by omega) (by omega);omega
def kg (a b:Nat):Int:=if a<b then -1 else if b<a then 1 else 0
theorem aC {a b:Nat}(h:a<=b):(ai a).length<=(ai b).length:=by
 rcases Nat.lt_or_ge (ai b).length (ai a).length with c|c
 ·have:=kn c;omega
 ·exact c
theorem bo {ds:List Nat}(h:bV ds):(ai (val ds)).length<=ds.length:=by rw [←aR h];exact ky ds
theorem LU {n:Nat}(h:n<4294967296)(h0:n≠0):ai n=[n]:=by
 have:tm [n]:=by simp [tm,cg,h0]
 have:=vj (by simp [bV];exact h) this;simpa using this
end Go.Big
namespace Go.Eng
open Go.Big
theorem aw {x:Int}(h:-9223372036854775808<=x/\x<=9223372036854775807):i64.wrap x=x:=IntWalk.i64_in x h
theorem aN {x:Int}(h:0<=x/\x<=18446744073709551615):u64.wrap x=x:=IntWalk.u64_in x h
theorem qB {x:Int}(h:0<=x/\x<=4294967295):u32.wrap x=x:=IntWalk.u32_in x h
theorem iA (x:Int):u32.wrap x=x%4294967296:=by rw [IntKind.wrap_u32]
theorem rR (x:Int):u64.wrap x=x%18446744073709551616:=by rw [IntKind.wrap_u64]
theorem lN {x:Int}:x.fdiv (2^32)=x / 4294967296:=by rw [Int.fdiv_eq_ediv_of_nonneg _ (by decide)];rfl
theorem KH {x:Int}:x.fdiv (2^63)=x / 9223372036854775808:=by rw [Int.fdiv_eq_ediv_of_nonneg _ (by decide)];rfl
theorem Dc (a b:Nat)(ha:a<4294967296)(hb:b<4294967296):bz .or .u64 ((a:Int)*4294967296) (b:Int)=(a:Int)*4294967296+b:=by
 have c:((a:Int)*4294967296)=((a*2^32:Nat):Int):=by simp
 rw [bz,c,rR]
 have d:(BitVec.ofInt IntKind.u64.bits ((a*2^32:Nat):Int) ||| BitVec.ofInt IntKind.u64.bits (b:Int)).toNat=a*2^32+b:=by
  show (BitVec.ofInt 64 ((a*2^32:Nat):Int) ||| BitVec.ofInt 64 (b:Int)).toNat=_;rw [BitVec.ofInt_natCast,BitVec.ofInt_natCast,BitVec.toNat_or,BitVec.toNat_ofNat,BitVec.toNat_ofNat,Nat.mod_eq_of_lt (by omega),Nat.mod_eq_of_lt (by omega)];have:=Nat.shiftLeft_add_eq_or_of_lt (b:=b) (i:=32) (by omega) a;rw [Nat.shiftLeft_eq] at this;exact this.symm
 rw [d];omega
def aB (ds:List Nat):List Value:=ds.map fun (d:Nat)=>Value.int .u32 (d:Int)
@[simp] theorem SS (ds:List Nat):(aB ds).length=ds.length:=by simp [aB]
theorem bD (ds:List Nat)(i x:Nat):(aB ds).set i (.int .u32 (x:Int))=aB (ds.set i x):=by simp [aB,List.map_set]
theorem cK (n:Nat):List.replicate n (Value.int .u32 0)=aB (List.replicate n 0):=by simp [aB]
theorem gg {ds:List Nat}{i:Nat}(h:i<ds.length):(aB ds)[i]?=some (.int .u32 (ds[i]:Int)):=by simp [aB,h]
theorem Ap (ds:List Nat)(k:Nat):aB (ds.take k)=(aB ds).take k:=by simp [aB,List.map_take]
theorem Ia (ds:List Nat)(k:Nat):aB (ds.drop k)=(aB ds).drop k:=by simp [aB,List.map_drop]
theorem sW (a b:List Nat):aB (a++b)=aB a++aB b:=by simp [aB]
theorem View.Le.sl {V V':View}(h:V.Le V'){a:OA}{xs:List Value}(hs:V.sl a xs):V'.sl a xs:=
 fun i v b=>let ⟨ad,e,ha⟩:=hs i v b;⟨ad,e,h.at ha⟩
structure RD (V:View) (p:OA) (n c:Nat) (ds:List Nat):Prop where
 len:n=ds.length
 cap:n<=c
 sl:V.sl p (aB ds)
 fk:bV ds
 JZ:p.isNone=true->c=0
theorem RD.le {V V':View}{p:OA}{n c:Nat}{ds:List Nat}(h:RD V p n c ds)(l:V.Le V'):RD V' p n c ds:=⟨h.len,h.cap,l.sl h.sl,h.fk,h.JZ⟩
theorem RD.nil {V:View}:RD V none 0 0 []:=⟨rfl,Nat.le_refl _,fun i v h=>by simp [aB] at h,bV.nil,fun _=>rfl⟩
theorem RD.take {V:View}{p:OA}{n c:Nat}{ds:List Nat}(h:RD V p n c ds){k:Nat}(hk:k<=n):RD V p k c (ds.take k):=by
 have:=h.len;refine ⟨by simp;omega,by have:=h.cap;omega,fun i v a=>h.sl i v ?_,h.fk.take k,h.JZ⟩;rw [Ap] at a;rw [List.getElem?_take] at a;split at a
 ·exact a
 ·cases a
theorem RD.rd {V:View}{p:OA}{n c:Nat}{ds:List Nat}(h:RD V p n c ds){i:Int}{K:Int->Prop}(j:Nat)(hj:i=j)(hn:j<ds.length)
  (hK:K ((ds[j]:Nat):Int)):(p.isSome=true)/\(0<=i/\i<(n:Int))/\∃x:Int,(∃a,ah p (i.toNat*1)=some a/\V.at a (.int .u32 x))/\K x:=by
 obtain ⟨b,e,d⟩:=h.sl j _ (gg hn);have:=h.len;subst hj;refine ⟨by rw [e];rfl,⟨by omega,by omega⟩,_,⟨b.add j,?_,d⟩,hK⟩;rw [e];simp [ah]
theorem fS {V:View}{b:Nat}{xs:List Value}{ty:TypeId}{m:Nat×Nat}(h:V.bw b (.cells xs.toArray ty m)){i:Nat}{v:Value}(hv:xs[i]?=some v):V.at ⟨b,i,none⟩ v:=by
 refine ⟨h.1,?_⟩;unfold World.cell?;rw [h.2];simpa using hv
theorem add_zero' (b i:Nat):(⟨b,0,none⟩:Addr).add i=⟨b,i,none⟩:=by
 unfold Addr.add;split
 ·rename_i h;simp_all
 ·simp
theorem RD.bw {V:View}{b:Nat}{ds:List Nat}{ty:TypeId}{m:Nat×Nat}(h:V.bw b (.cells (aB ds).toArray ty m))(hd:bV ds){n c:Nat}(hn:n=ds.length)(hc:n<=c):RD V (some ⟨b,0,none⟩) n c ds:=
 ⟨hn,hc,fun i v a=>⟨_,rfl,by rw [add_zero'];exact fS h a⟩,hd,fun e=>nomatch e⟩
end Go.Eng
namespace Go.Proofs.Tryz
open Go.Eng Go.Big
theorem aW {V:View}{p:OA}{n c:Nat}{ds:List Nat}(h:RD V p n c ds)(hm:ds.length<=4611686018427387904) :
  ae prog 196 #[.slice p n c] V fun r V'=>∃k,r=.slice p k c/\RD V' p k c (cg ds):=by
 refine D0 p n c V _ ?_;refine ⟨fun z V'=>z.1=p/\z.2.2=c/\z.2.1<=ds.length/\cg (ds.take z.2.1)=cg ds/\RD V' p z.2.1 c (ds.take z.2.1),fun z=>z.2.1,⟨(p,n,c),⟨rfl,rfl,rfl⟩,rfl,rfl,?_⟩,?_⟩
 ·have:=h.len;subst this;simp;exact h
 ·rintro ⟨q,k,i⟩ l m ⟨rfl,rfl,j,e,d⟩;dsimp only at j e d ⊢;refine ⟨rfl,fun a=>?_,fun a=>?_⟩
  ·have a:0<k:=by simpa using a
   simp (disch:=omega) only [aw];have o:(ds.take k).length=k:=by simp;omega
   have f:ds.take k=ds.take (k-1)++[ds[k-1]]:=by rw [←List.take_succ_eq_append_getElem (by omega),Nat.sub_add_cancel a]
   refine d.rd (k-1) (by omega) (by omega) ⟨fun b=>?_,fun b=>?_⟩
   ·have b:ds[k-1]=0:=by simpa using b
    refine ⟨⟨by omega,by have:=d.cap;omega⟩,(q,k-1,i),by dsimp only;omega,⟨rfl,by dsimp only;omega,rfl⟩,rfl,rfl,by dsimp only;omega,?_,?_⟩
    ·dsimp only;rw [←e,f,b,ia]
    ·have:=d.take (k:=k-1) (by omega);dsimp only
     rwa [List.take_take,Nat.min_eq_left (by omega)] at this
   ·have b:ds[k-1]≠0:=by simpa using b
    refine fun V2 g=>⟨k,rfl,?_⟩;rw [←e,f,oV _ _ b,←f];exact d.le g
  ·have a:k=0:=by simpa using a
   subst a;refine fun V2 g=>⟨0,rfl,?_⟩;rw [←e];exact d.le g
theorem me {V:View}{p:OA}{n c:Nat}{ds:List Nat}(h:RD V p n c ds)(hm:ds.length<=1099511627776) :
  ae prog 231 #[.slice p n c] V fun r V'=>∃q k c',r=.slice q k c'/\RD V' q k c' ds:=by
 have g:=h.len;refine uh p n c V _ ⟨fun f m o=>⟨_,_,_,rfl,?_⟩,fun f=>⟨aB ds,h.sl,by simp [g],by omega,by omega,by simp,by simp [g],?_,?_⟩⟩
 ·have f:p=none:=by simpa using f
  subst f
  have:ds=[]:=by
   rcases Nat.eq_zero_or_pos ds.length with e|e
   ·exact List.length_eq_zero_iff.1 e
   ·obtain ⟨s,e,-⟩:=h.sl 0 _ (gg e);cases e
  subst this;exact RD.nil
 ·intro v a;simp only [aB,List.mem_map] at a;obtain ⟨d,-,rfl⟩:=a;rfl
 ·intro t J sp c' j u m o b l;refine ⟨_,_,_,rfl,?_⟩;simp only [Nat.zero_add,Nat.zero_mul,List.take_zero,List.nil_append] at l j ⊢;exact ⟨g,j,fun i v a=>⟨_,rfl,by rw [add_zero'];exact fS l (by rw [List.getElem?_append_left (by rcases Nat.lt_or_ge i (aB ds).length with e|e;exact e;rw [List.getElem?_eq_none e] at a;cases a)];exact a)⟩,h.fk,fun e=>nomatch e⟩
abbrev RN (V:View)(p:OA)(n c:Nat)(x:Nat):Prop:=RD V p n c (ai x)
theorem iQ {V:View}{p:OA}{n c:Nat}{ds:List Nat}(h:RD V p n c ds)(hm:ds.length<=1099511627776) :
  ae prog 195 #[.slice p n c] V fun r V'=>∃q k c',r=.slice q k c'/\RN V' q k c' (val ds):=by
 refine DW p n c V _ fun g a=>(aW (h.le a) (by omega)).mono ?_;rintro r V2 i ⟨k,rfl,b⟩;refine ⟨_,_,_,rfl,fun j d=>(me (b.le d) (by have:=ky ds;omega)).mono ?_⟩;rintro r l m ⟨q,o,c',rfl,e⟩;refine ⟨_,_,_,rfl,fun s f=>⟨_,_,_,rfl,?_⟩⟩;unfold RN;rw [←aR h.fk];exact e.le f
theorem pH {V:View}{p:OA}{n c:Nat}{ds:List Nat}(h:RD V p n c ds)(hm:ds.length<=1099511627776) :
  ae prog 146 #[.slice p n c] V fun r V'=>r=.bool (decide (ai (val ds)=ds)):=by
 have d:=h.len;refine yG p n c V _ ⟨fun a e f=>?_,fun a=>?_⟩
 ·have:ds=[]:=List.length_eq_zero_iff.1 (by simp at a;omega);subst this;rfl
 ·have a:0<n:=by simp at a;omega
  simp (disch:=omega) only [aw];refine h.rd (n-1) (by omega) (by omega) fun e f=>?_;congr 1;rw [Bool.eq_iff_iff];simp only [bne_iff_ne,ne_eq,decide_eq_true_eq];subst d;constructor
  ·intro b;exact vj h.fk (C7 fun _=>by simpa using b)
  ·intro he b;have:tm ds:=by rw [←he];exact je _
   exact this.last (by omega) (by simpa using b)
theorem dJ {V:View}(u:Int)(h0:0<=u)(h1:u<18446744073709551616) :
  ae prog 197 #[.int .u64 u] V fun r V'=>∃q k c',r=.slice q k c'/\RN V' q k c' u.toNat:=by
 obtain ⟨u,rfl⟩:=Int.eq_ofNat_of_zero_le h0;refine tW _ V _ ⟨by omega,fun e h f a=>?_⟩;rw [lN,iA,qB (by omega)] at a
 have a:e.bw f (.cells (aB [u%4294967296,u / 4294967296]).toArray 221 (0,0)):=by
  simpa [aB] using a
 have d:bV [u%4294967296,u / 4294967296]:=by simp [bV];omega
 refine (aW (RD.bw a d (n:=2) (c:=2) rfl (Nat.le_refl _)) (by simp)).mono ?_;rintro r V2 i ⟨k,rfl,b⟩;refine ⟨_,_,_,rfl,fun _ j g=>⟨_,_,_,rfl,?_⟩⟩;rw [aR d] at b;have:val [u%4294967296,u / 4294967296]=(u:Int).toNat:=by simp;omega
 rw [this] at b;exact b.le g
theorem zz {V:View}{p q:OA}{n c m e:Nat}{xa xb:List Nat}(ha:RD V p n c xa)(hb:RD V q m e xb)(hm:xa.length<=1099511627776)(hn:xb.length<=1099511627776) :
  ae prog 230 #[.slice p n c,.slice q m e] V fun r V'=>r=.int .i64 (kg (val xa) (val xb)):=by
 have la:=ky xa;have lb:=ky xb;refine FO p n c q m e V _ fun J w=>(aW (ha.le w) (by omega)).mono ?_;rintro r V2 D ⟨n,rfl,g⟩;refine ⟨_,_,_,rfl,fun K A=>(aW (hb.le (w.trans (D.trans A))) (by omega)).mono ?_⟩;rintro r L E ⟨m,rfl,j⟩;refine ⟨_,_,_,rfl,?_⟩
 replace g:=g.le (A.trans E)
 rw [aR ha.fk] at g la;rw [aR hb.fk] at j lb;generalize val xa=x at *;generalize val xb=y at *;have F:=g.len;have G:=j.len;refine ⟨fun h=>⟨fun d B C=>?_,fun d B C=>?_⟩,fun h=>?_⟩
 ·have:=kn (a:=x) (b:=y) (by simp at d;omega);rw [kg,if_pos this]
 ·have:=kn (a:=y) (b:=x) (by simp at h d;omega);rw [kg,if_neg (by omega),if_pos this]
 ·have h:n=m:=by simp at h;omega
  subst h;simp (disch:=omega) only [aw];refine ⟨fun z V'=>-1<=z/\z<n/\(ai x).drop (z+1).toNat=(ai y).drop (z+1).toNat,fun z=>(z+1).toNat,⟨_,by (try dsimp only);and_intros<;>trivial,by (try dsimp only);omega,by (try dsimp only);omega,?_⟩,?_⟩
  ·(try dsimp only)
   rw [List.drop_of_length_le (by omega),List.drop_of_length_le (by omega)]
  ·rintro i M k ⟨o,s,t⟩;dsimp only at o s t ⊢;refine ⟨by trivial,fun d=>?_,fun d B C=>?_⟩
   ·have d:0<=i:=by simpa using d
    obtain ⟨i,rfl⟩:=Int.eq_ofNat_of_zero_le d;simp (disch:=omega) only [aw];have f:(ai x).drop (i+1)=(ai y).drop (i+1):=t;refine (g.le k).rd i rfl (by omega) ((j.le k).rd i rfl (by omega) ⟨fun u H I=>?_,fun u=>?_⟩)
    ·have:=jD (aA x) (by omega) (by omega) f (by simpa using u);rw [af,af] at this;rw [kg,if_pos this]
    ·refine (g.le k).rd i rfl (by omega) ((j.le k).rd i rfl (by omega) ⟨fun v H I=>?_,fun v=>?_⟩)
     ·have:=jD (aA y) (by omega) (by omega) f.symm (by simpa using v);rw [af,af] at this;rw [kg,if_neg (by omega),if_pos this]
     ·refine ⟨_,?_,by (try dsimp only);and_intros<;>trivial,?_,?_,?_⟩
      ·(try dsimp only);omega
      ·(try dsimp only);omega
      ·(try dsimp only);omega
      ·(try dsimp only)
       have:((i:Int)-1+1).toNat=i:=by omega
       rw [this,List.drop_eq_getElem_cons (by omega),List.drop_eq_getElem_cons (l:=ai y) (by omega),f];congr 1;simp at u v;omega
   ·have d:i=-1:=by simp at d;omega
    subst d;have:ai x=ai y:=by simpa using t
    have:=pN this;subst this;simp [kg]
theorem uF {E A B c d x y W:Nat}(h:E+W*c=A+B)(hd:d=c+x+y):E+W*(d%4294967296)+W*4294967296*(d / 4294967296)=A+W*x+(B+W*y):=by
 have a:W*(d%4294967296)+W*4294967296*(d / 4294967296)=W*d:=by
  rw [Nat.mul_assoc,←Nat.mul_add,Nat.mod_add_div]
 rw [Nat.add_assoc,a,hd,Nat.mul_add,Nat.mul_add];omega
theorem Hl {V:View}{p q:OA}{n c m e:Nat}{xa xb:List Nat}(ha:RD V p n c xa)(hb:RD V q m e xb)(hm:xa.length<=1099511627776)(hn:xb.length<=1099511627776) :
  ae prog 250 #[.slice p n c,.slice q m e] V fun r V'=>∃p' n' c',r=.slice p' n' c'/\RN V' p' n' c' (val xa+val xb):=by
 have B:=ha.len;have C:=hb.len;refine FN p n c q m e V _ ⟨fun z V'=>∃xs b,RD V' z.1 z.2.1 z.2.2.1 xs/\RD V' z.2.2.2.1 z.2.2.2.2.1 z.2.2.2.2.2 b/\b.length<=xs.length/\xs.length<=1099511627776/\val xs+val b=val xa+val xb,⟨fun D=>?_,fun D=>?_⟩,?_⟩
 ·exact ⟨(_,_,_,_,_,_),by (try dsimp only);and_intros<;>trivial,xb,xa,hb,ha,by simp at D;omega,hn,by omega⟩
 ·exact ⟨(_,_,_,_,_,_),by (try dsimp only);and_intros<;>trivial,xa,xb,ha,hb,by simp at D;omega,hm,rfl⟩
 ·rintro ⟨p,n,c,q,m,e⟩ O P ⟨xs,b,x,A,Q,hm,h⟩;dsimp only at x A ⊢;rw [←h];clear h ha hb B C;have L:=x.len;have R:=A.len;simp (disch:=omega) only [aw,cK];have E:((n:Int)+1).toNat=n+1:=by omega
  rw [E]
  refine ⟨by trivial,by omega,by omega,by omega,fun z V'=>0<=z.1/\z.1<=1/\0<=z.2.1/\z.2.1<=n/\∃es:List Nat,z.2.2=aB es/\es.length=n+1/\bV es /\
   val (es.take z.2.1.toNat)+4294967296^z.2.1.toNat*z.1.toNat=val (xs.take z.2.1.toNat)+val (b.take z.2.1.toNat),fun z=>n-z.2.1.toNat,⟨(0,0,aB (List.replicate (n+1) 0)),by (try dsimp only);and_intros<;>trivial,by (try dsimp only);omega,by (try dsimp only);omega,by (try dsimp only);omega,by (try dsimp only);omega,_,rfl,by simp,bV.rep _,by simp⟩,?_⟩
  rintro ⟨f,i,S⟩ V2 K ⟨o,F,s,G,es,rfl,H,t,h⟩;dsimp only at o F s G h ⊢;obtain ⟨i,rfl⟩:=Int.eq_ofNat_of_zero_le s;obtain ⟨f,rfl⟩:=Int.eq_ofNat_of_zero_le o;simp only [Int.toNat_natCast] at h;refine ⟨by trivial,fun l=>?_,fun l=>?_⟩
  ·have l:i<n:=by simpa using l
   refine (x.le K).rd i rfl (by omega) ?_;have T:=x.fk.get (i:=i) (by omega)
   have next:∀d:Nat,d<8589934592->val (es.take i)+4294967296^i*(d%4294967296)+4294967296^i*4294967296*(d / 4294967296)=val (xs.take (i+1))+val (b.take (i+1)) ->
     ∃a:List Nat,(aB es).set i (.int .u32 ((d%4294967296:Nat):Int))=aB a/\a.length=n+1/\bV a /\
     val (a.take (i+1))+4294967296^(i+1)*(d / 4294967296)=val (xs.take (i+1))+val (b.take (i+1)):=by
    intro d U he;refine ⟨es.set i (d%4294967296),bD _ _ _,by simpa using H,t.set _ _ (by omega),?_⟩;rw [aJ _ _ _ (by omega),Nat.pow_succ];exact he
   refine ⟨fun g=>?_,fun g=>?_⟩
   ·have g:i<m:=by simpa using g
    refine (A.le K).rd i rfl (by omega) ?_;have M:=A.fk.get (i:=i) (by omega);simp (disch:=omega) only [aN,aw,iA,lN];refine ⟨⟨by omega,by omega⟩,by simp;omega,by omega,(_,_,_),?_,by (try dsimp only);and_intros<;>trivial,?_⟩
    ·(try dsimp only);omega
    ·(try dsimp only)
     have j:((i:Int)+1).toNat=i+1:=by omega
     obtain ⟨a,u,v,I,J⟩:=next (f+xs[i]+b[i]) (by omega) (by rw [au _ _ (by omega),au _ _ (by omega)];exact uF h rfl);refine ⟨by omega,by omega,by omega,by omega,a,?_,v,I,?_⟩
     ·rw [←u];simp
     ·rw [j,←J];congr 2
   ·have g:m<=i:=by simpa using g
    simp (disch:=omega) only [aN,aw,iA,lN];refine ⟨⟨by omega,by omega⟩,by simp;omega,by omega,(_,_,_),?_,by (try dsimp only);and_intros<;>trivial,?_⟩
    ·(try dsimp only);omega
    ·(try dsimp only)
     have j:((i:Int)+1).toNat=i+1:=by omega
     obtain ⟨a,u,v,I,J⟩:=next (f+xs[i]) (by omega) (by
      rw [au _ _ (by omega),aq (ds:=b) (i:=i+1) (by omega)];have:=uF (y:=0) h (d:=f+xs[i]) rfl
      rwa [aq (ds:=b) (by omega),Nat.mul_zero,Nat.add_zero] at this)
     refine ⟨by omega,by omega,by omega,by omega,a,?_,v,I,?_⟩
     ·rw [←u];simp
     ·rw [j,←J];congr 2
  ·have l:i=n:=by simp at l;omega
   subst l;simp (disch:=omega) only [qB];refine ⟨⟨by omega,by omega⟩,by simp;omega,fun W X Y hb=>?_⟩;have u:(aB es).set (0+((i:Int).toNat)*1) (.int .u32 (f:Int))=aB (es.set i f):=by rw [←bD];simp
   rw [u] at hb;have w:=t.set i f (by omega);refine (aW (RD.bw hb w (n:=i+1) (c:=i+1) (by simp;omega) (Nat.le_refl _)) (by simp;omega)).mono ?_;rintro r Z l4 ⟨k,rfl,g⟩;refine ⟨_,_,_,rfl,fun _ V5 N=>⟨_,_,_,rfl,?_⟩⟩;rw [aR w] at g
   have v:val (es.set i f)=val xs+val b:=by
    have:=aJ es i f (by omega);rw [aq (by simp;omega)] at this;rw [this,h,aq (by omega),aq (by omega)]
   rw [v] at g;exact g.le N
theorem KP {E A B c x y W:Nat}(h:E+B=A+W*c){v:Int}(hc:c<=1)(hx:x<4294967296)(hy:y<4294967296)(hv:v=((x:Int)-(c+y))%18446744073709551616) :
  0<=v/\v / 9223372036854775808<=1/\0<=v / 9223372036854775808/\E+W*(v%4294967296).toNat+(B+W*y)=A+W*x+W*4294967296*(v / 9223372036854775808).toNat:=by
 rcases Nat.lt_or_ge x (c+y) with d|d
 ·have e:v=18446744073709551616+(x:Int)-(c+y):=by omega
  have a:(v / 9223372036854775808).toNat=1:=by omega
  have b:(v%4294967296).toNat+(c+y)=x+4294967296:=by omega
  refine ⟨by omega,by omega,by omega,?_⟩;rw [a,Nat.mul_one];have:=congrArg (W*·) b;simp only [Nat.mul_add] at this;omega
 ·have e:v=(x:Int)-(c+y):=by omega
  have a:(v / 9223372036854775808).toNat=0:=by omega
  have b:(v%4294967296).toNat+(c+y)=x:=by omega
  refine ⟨by omega,by omega,by omega,?_⟩;rw [a,Nat.mul_zero,Nat.add_zero];have:=congrArg (W*·) b;simp only [Nat.mul_add] at this;omega
theorem EF {V:View}{p q:OA}{n c m e:Nat}{xs ys:List Nat}(hx:RD V p n c xs)(hy:RD V q m e ys)(hm:xs.length<=1099511627776)(hl:ys.length<=xs.length)(hle:val ys<=val xs) :
  ae prog 262 #[.slice p n c,.slice q m e] V fun r V'=>∃p' n' c',r=.slice p' n' c'/\RN V' p' n' c' (val xs-val ys):=by
 have D:=hx.len;have O:=hy.len
 refine DY p n c q m e V _ ⟨by omega,by omega,by omega,fun z V'=>0<=z.1/\z.1<=1/\0<=z.2.1/\z.2.1<=n/\∃es:List Nat,z.2.2=aB es/\es.length=n/\bV es /\
   val (es.take z.2.1.toNat)+val (ys.take z.2.1.toNat)=val (xs.take z.2.1.toNat)+4294967296^z.2.1.toNat*z.1.toNat,fun z=>n-z.2.1.toNat,
   ⟨(0,0,List.replicate n (.int .u32 0)),by (try dsimp only);and_intros<;>trivial,by (try dsimp only);omega,by (try dsimp only);omega,by (try dsimp only);omega,by (try dsimp only);omega,List.replicate n 0,cK n,by simp,bV.rep _,by simp⟩,?_⟩
 rintro ⟨j,i,P⟩ V2 B ⟨l,u,o,w,es,rfl,d,a,s⟩;dsimp only at l u o w s ⊢;obtain ⟨i,rfl⟩:=Int.eq_ofNat_of_zero_le o;obtain ⟨j,rfl⟩:=Int.eq_ofNat_of_zero_le l;simp only [Int.toNat_natCast] at s;refine ⟨by trivial,fun f=>?_,fun f=>?_⟩
 ·have f:i<n:=by simpa using f
  refine (hx.le B).rd i rfl (by omega) ?_;have E:=hx.fk.get (i:=i) (by omega);refine ⟨fun z V'=>∃y:Nat,z=j+y/\y<4294967296/\val (ys.take (i+1))=val (ys.take i)+4294967296^i*y,⟨fun b=>?_,fun b=>?_⟩,?_⟩
  ·have b:i<m:=by simpa using b
   refine (hy.le B).rd i rfl (by omega) ?_;have g:=hy.fk.get (i:=i) (by omega);simp (disch:=omega) only [aN];exact ⟨_,by (try dsimp only);and_intros<;>trivial,ys[i],rfl,g,au _ _ (by omega)⟩
  ·have b:m<=i:=by simpa using b
   exact ⟨_,by (try dsimp only);and_intros<;>trivial,0,by simp,by omega,by rw [aq (by omega),aq (by omega)];simp⟩
  ·rintro t F G ⟨y,rfl,g,x⟩;refine ⟨by trivial,⟨by omega,by simpa using f⟩,by simp;omega,by omega,?_⟩;simp (disch:=omega) only [aN,aw,rR,iA,KH];obtain ⟨v,C⟩:∃v:Int,v=((xs[i]:Int)-((j:Int)+(y:Int)))%18446744073709551616:=⟨_,rfl⟩;obtain ⟨Q,H,I,J⟩:=KP s (by omega) E g C;rw [←C];refine ⟨(_,_,_),?_,by (try dsimp only);and_intros<;>trivial,?_⟩
   ·(try dsimp only);omega
   ·(try dsimp only)
    have A:((i:Int)+1).toNat=i+1:=by omega
    refine ⟨I,H,by omega,by omega,es.set i (v%4294967296).toNat,?_,by simpa using d,a.set _ _ (by omega),?_⟩
    ·rw [←bD];congr 2
     ·simp
     ·omega
    ·rw [A,aJ _ _ _ (by omega),x,J,au _ _ (by omega),Nat.pow_succ]
 ·have f:i=n:=by simp at f;omega
  subst f;intro F G R K;refine (aW (RD.bw K a (n:=i) (c:=i) d.symm (Nat.le_refl _)) (by omega)).mono ?_;rintro r S T ⟨k,rfl,b⟩;refine ⟨_,_,_,rfl,fun _ U L=>⟨_,_,_,rfl,?_⟩⟩;rw [aR a] at b;rw [aq (by omega),aq (by omega),aq (by omega)] at s;have M:=gj a;rw [d] at M
  have N:j=0:=by
   rcases Nat.eq_zero_or_pos j with h|h
   ·exact h
   ·have:4294967296^i*1<=4294967296^i*j:=Nat.mul_le_mul_left _ h;omega
  subst N;rw [show val es=val xs-val ys from by omega] at b;exact b.le L
theorem fU {a b:Nat}:kg a b<0↔a<b:=by
 unfold kg;split
 ·simp;omega
 ·split<;>simp<;>omega
theorem kh {a b:Nat}:kg a b=0↔a=b:=by
 unfold kg;split
 ·simp;omega
 ·split
  ·simp;omega
  ·simp;omega
theorem zB {V:View}{p q:OA}{n c m e:Nat}{xa xb:List Nat}(ha:RD V p n c xa)(hb:RD V q m e xb)(hm:xa.length<=1099511627776)(hn:xb.length<=1099511627776) :
  ae prog 251 #[.slice p n c,.slice q m e] V fun r V'=>∃p' n' c',r=.tuple #[.slice p' n' c',.bool (decide (val xb<=val xa))]/\RN V' p' n' c' (val xa-val xb):=by
 refine FU p n c q m e V _ fun u b=>(zz (ha.le b) (hb.le b) hm hn).mono ?_;rintro r V2 f rfl;refine ⟨_,rfl,fun a l d=>?_,fun a l d=>?_⟩
 ·have a:val xa<val xb:=by simpa [fU] using a
  rw [Nat.sub_eq_zero_of_le (by omega),decide_eq_false (by omega)];exact ⟨_,_,_,rfl,RD.nil⟩
 ·have a:val xb<=val xa:=by simpa [←Int.not_lt,fU] using a
  rw [decide_eq_true a];refine (aW ((ha.le b).le (f.trans d)) (by omega)).mono ?_;rintro r v o ⟨w,rfl,g⟩;refine ⟨_,_,_,rfl,fun x h=>(aW ((hb.le b).le (f.trans (d.trans (o.trans h)))) (by omega)).mono ?_⟩;rintro r y s ⟨z,rfl,i⟩;rw [aR ha.fk] at g;rw [aR hb.fk] at i;have:=bo ha.fk;refine ⟨_,_,_,rfl,fun A j=>(EF (g.le (h.trans (s.trans j))) (i.le j) (by omega) (aC a) (by rw [af,af];exact a)).mono ?_⟩;rintro r B C ⟨p',n',c',rfl,k⟩;rw [af,af] at k;exact ⟨_,_,_,rfl,fun D t=>⟨_,_,_,rfl,k.le t⟩⟩
end Go.Proofs.Tryz
namespace Go.Big
def bG (n:Nat):Nat:=if n=0 then 0 else n.log2+1
theorem pX (n:Nat):n<2^bG n:=by
 unfold bG;split
 ·subst_vars;decide
 ·exact Nat.lt_log2_self
theorem pV {n:Nat}(h:n≠0):2^(bG n-1)<=n:=by
 unfold bG;rw [if_neg h];exact Nat.log2_self_le h
theorem sw {n b:Nat}(h0:n<2^b)(h1:b=0\/2^(b-1)<=n):bG n=b:=by
 rcases h1 with h1|h1
 ·subst h1;have:n=0:=by simpa using h0
  subst this;rfl
 ·have a:n≠0:=by have:=Nat.two_pow_pos (b-1);omega
  have c:=pX n;have d:=pV a;have e:¬bG n<b:=fun h=>by have:=Nat.pow_le_pow_right (n:=2) (by omega) (show bG n<=b-1 by omega);omega
  have f:¬b<bG n:=fun h=>by have:=Nat.pow_le_pow_right (n:=2) (by omega) (show b<=bG n-1 by omega);omega
  omega
theorem fR {n b:Nat}:bG n<=b↔n<2^b:=by
 constructor
 ·intro h;exact Nat.lt_of_lt_of_le (pX n) (Nat.pow_le_pow_right (by omega) h)
 ·intro h;rcases Nat.lt_or_ge b (bG n) with a|a
  ·have c:n≠0:=by intro e;subst e;simp [bG] at a
   have:=pV c;have:=Nat.pow_le_pow_right (n:=2) (by omega) (show b<=bG n-1 by omega);omega
  ·exact a
theorem uN {n k:Nat}(h:2^k<=n):bG (n / 2^k)+k=bG n:=by
 have a:=Nat.two_pow_pos k;have b:n / 2^k≠0:=by have:=Nat.div_pos h a;omega
 have c:=pX (n / 2^k);have d:=pV b;refine (sw ?_ (.inr ?_)).symm
 ·rw [Nat.pow_add];exact (Nat.div_lt_iff_lt_mul a).1 c
 ·have e:0<bG (n / 2^k):=by unfold bG;rw [if_neg b];omega
  rw [show bG (n / 2^k)+k-1=bG (n / 2^k)-1+k from by omega,Nat.pow_add];exact (Nat.le_div_iff_mul_le a).1 d
end Go.Big
namespace Go.Proofs.Tryz
open Go.Eng Go.Big
theorem fV (a k:Nat):((a:Nat):Int).fdiv (2^k)=((a / 2^k:Nat):Int):=by
 rw [Int.fdiv_eq_ediv_of_nonneg _ (by have:=Int.pow_pos (n:=2) (m:=k) (by omega);omega)];simp
def CZ:ByteArray:=⟨#[0,1,2,2,3,3,3,3,4,4,4,4,4,4,4,4,5,5,5,5,5,5,5,5,5,5,5,5,5,5,5,5,6,6,6,6,6,6,6,6,6,6,6,6,6,6,6,6,6,6,6,6,6,6,6,6,6,6,6,6,6,6,6,6,7,7,7,7,7,7,7,7,7,7,7,7,7,7,7,7,7,7,7,7,7,7,7,7,7,7,7,7,7,7,7,7,7,7,7,7,7,7,7,7,7,7,7,7,7,7,7,7,7,7,7,7,7,7,7,7,7,7,7,7,7,7,7,7,8,8,8,8,8,8,8,8,8,8,8,8,8,8,8,8,8,8,8,8,8,8,8,8,8,8,8,8,8,8,8,8,8,8,8,8,8,8,8,8,8,8,8,8,8,8,8,8,8,8,8,8,8,8,8,8,8,8,8,8,8,8,8,8,8,8,8,8,8,8,8,8,8,8,8,8,8,8,8,8,8,8,8,8,8,8,8,8,8,8,8,8,8,8,8,8,8,8,8,8,8,8,8,8,8,8,8,8,8,8,8,8,8,8,8,8,8,8,8,8,8,8,8,8,8,8,8,8]⟩
set_option maxRecDepth 10000 in
theorem LI {V:View}(x:Nat)(hx:x<4294967296) :
  ae prog 214 #[.int .u32 (x:Int)] V fun r V'=>r=.int .i64 (bG x:Int):=by
 refine oZ _ V _ ⟨fun z _=>∃y b:Nat,z=((y:Int),(b:Int))/\y<65536/\b<=16/\bG x=bG y+b,⟨fun a=>⟨by omega,?_⟩,fun a=>?_⟩,?_⟩
 ·rw [fV];have a:2^16<=x:=by simp at a;omega
  exact ⟨_,⟨rfl,rfl⟩,x / 2^16,16,rfl,by omega,by omega,(uN a).symm⟩
 ·exact ⟨_,⟨rfl,rfl⟩,x,0,rfl,by simp at a;omega,by omega,rfl⟩
 ·rintro _ h i ⟨y,b,rfl,d,f,e⟩;rw [e];clear e;refine ⟨by trivial,fun z _=>∃y' b':Nat,z=((y':Int),(b':Int))/\y'<256/\b'<=24/\bG y+b=bG y'+b',⟨fun a=>⟨by omega,?_⟩,fun a=>?_⟩,?_⟩
  ·dsimp only at a ⊢;rw [fV];simp (disch:=omega) only [aw];have a:2^8<=y:=by simp at a;omega
   exact ⟨(((y / 2^8:Nat):Int),(b:Int)+8),⟨rfl,rfl⟩,y / 2^8,b+8,by simp,by omega,by omega,by have:=uN a;omega⟩
  ·exact ⟨_,⟨rfl,rfl⟩,y,b,rfl,by simp at a;omega,by omega,rfl⟩
  ·rintro _ V2 j ⟨y,b,rfl,d,f,e⟩;rw [e];clear e;have hw:IntKind.u8.wrap (y:Int)=y:=IntWalk.u8_in _ (by omega);dsimp only;rw [hw];have c:(CZ.size:Int)=256:=rfl;refine ⟨by trivial,⟨by omega,by show (y:Int)<(CZ.size:Int);rw [c];omega⟩,fun k l=>?_⟩;show Value.int .i64 (i64.wrap (b+i64.wrap ((CZ.data.toList.getD (y:Int).toNat 0).toNat:Int)))=_;congr 1;have key:∀y:Nat,y<256->(CZ.data.toList.getD y 0).toNat=bG y:=by decide +kernel
   have g:bG y<=8:=fR.2 (by omega);have:=key y d;rw [Int.toNat_natCast,this];simp (disch:=omega) only [aw];omega
theorem gx {V:View}(x:Nat)(hx:x<4294967296) :
  ae prog 227 #[.int .u32 (x:Int)] V fun r V'=>r=.int .i64 (32-(bG x:Int)):=by
 refine iD _ V _ fun b c=>(LI x hx).mono ?_;rintro r V2 d rfl;have a:bG x<=32:=fR.2 (by omega);refine ⟨_,rfl,fun e f=>?_⟩;simp (disch:=omega) only [aw]
theorem Ga (a:Nat)(ha:a<18446744073709551616):bz .and .u64 (a:Int) 4294967295=((a%4294967296:Nat):Int):=by
 rw [bz,rR]
 have b:(BitVec.ofInt IntKind.u64.bits ((a:Nat):Int) &&& BitVec.ofInt IntKind.u64.bits 4294967295).toNat=a%4294967296:=by
  show (BitVec.ofInt 64 ((a:Nat):Int) &&& BitVec.ofInt 64 ((4294967295:Nat):Int)).toNat=_;rw [BitVec.ofInt_natCast,BitVec.ofInt_natCast,BitVec.toNat_and,BitVec.toNat_ofNat,BitVec.toNat_ofNat,Nat.mod_eq_of_lt (by omega),Nat.mod_eq_of_lt (by omega)];have:=Nat.and_two_pow_sub_one_eq_mod a 32;exact this
 rw [b];omega
theorem C4 (a b c d:Nat)(ha:a<4294967296)(hb:b<4294967296)(hc:c<4294967296)(hd:d<4294967296) :
  a*c+(a*d+b*d / 4294967296) / 4294967296+((a*d+b*d / 4294967296)%4294967296+b*c) / 4294967296=(a*4294967296+b)*(c*4294967296+d) / 18446744073709551616 /\
  a*c<=18446744065119617025/\a*d<=18446744065119617025/\b*c<=18446744065119617025/\b*d<=18446744065119617025:=by
 have f:a*c<=4294967295*4294967295:=Nat.mul_le_mul (by omega) (by omega);have g:a*d<=4294967295*4294967295:=Nat.mul_le_mul (by omega) (by omega);have h:b*c<=4294967295*4294967295:=Nat.mul_le_mul (by omega) (by omega);have i:b*d<=4294967295*4294967295:=Nat.mul_le_mul (by omega) (by omega);have e:(a*4294967296+b)*(c*4294967296+d)=(a*c)*18446744073709551616+(a*d)*4294967296+(b*c)*4294967296+b*d:=by grind
 rw [e];generalize a*c=p at *;generalize a*d=q at *;generalize b*c=r at *;generalize b*d=s at *;refine ⟨by omega,by omega,by omega,by omega,by omega⟩
theorem LK {V:View}(x y:Nat)(hx:x<18446744073709551616)(hy:y<18446744073709551616) :
  ae prog 248 #[.int .u64 (x:Int),.int .u64 (y:Int)] V fun r V'=>r=.tuple #[.int .u64 ((x*y / 18446744073709551616:Nat):Int),.int .u64 ((x*y%18446744073709551616:Nat):Int)]:=by
 refine pf _ _ V _ ⟨by omega,by omega,by omega,by omega,by omega,fun v w=>?_⟩;have p:=C4 (x / 4294967296) (x%4294967296) (y / 4294967296) (y%4294967296) (by omega) (by omega) (by omega) (by omega);rw [Nat.div_add_mod' x 4294967296,Nat.div_add_mod' y 4294967296] at p;obtain ⟨f,z,A,B,C⟩:=p;have e:u64.wrap ((x:Int)*y)=((x*y%18446744073709551616:Nat):Int):=by rw [rR];simp
 rw [e,Ga x hx,Ga y hy,lN,lN];rw [←f];have g:((x:Int) / 4294967296)*((y:Int) / 4294967296)=((x / 4294967296*(y / 4294967296):Nat):Int):=by simp
 have h:((x:Int) / 4294967296)*((y%4294967296:Nat):Int)=((x / 4294967296*(y%4294967296):Nat):Int):=by simp
 have i:((x%4294967296:Nat):Int)*((y:Int) / 4294967296)=((x%4294967296*(y / 4294967296):Nat):Int):=by simp
 have j:((x%4294967296:Nat):Int)*((y%4294967296:Nat):Int)=((x%4294967296*(y%4294967296):Nat):Int):=by simp
 rw [g,h,i,j];generalize x / 4294967296*(y / 4294967296)=a at *;generalize x / 4294967296*(y%4294967296)=b at *;generalize x%4294967296*(y / 4294967296)=c at *;generalize x%4294967296*(y%4294967296)=d at *;simp only [lN];have k:u64.wrap (d:Int)=d:=aN (by omega);have l:u64.wrap (b:Int)=b:=aN (by omega);have m:u64.wrap (c:Int)=c:=aN (by omega);have n:u64.wrap (a:Int)=a:=aN (by omega);rw [k,l,m,n];have o:u64.wrap ((b:Int)+d / 4294967296)=((b+d / 4294967296:Nat):Int):=by rw [aN (by omega)];omega
 rw [o,Ga _ (by omega)];have q:u64.wrap (((b+d / 4294967296)%4294967296:Nat)+(c:Int))=(((b+d / 4294967296)%4294967296+c:Nat):Int):=by rw [aN (by omega)];omega
 rw [q]
 have s:x*y / 18446744073709551616<18446744073709551616:=by
  have:x*y<18446744073709551616*18446744073709551616:=Nat.mul_lt_mul'' hx hy;omega
 have t:u64.wrap ((a:Int)+((b+d / 4294967296:Nat):Int) / 4294967296)=((a+(b+d / 4294967296) / 4294967296:Nat):Int):=by
  rw [aN (by omega)];omega
 rw [t]
 have u:u64.wrap (((a+(b+d / 4294967296) / 4294967296:Nat):Int)+(((b+d / 4294967296)%4294967296+c:Nat):Int) / 4294967296)=((a+(b+d / 4294967296) / 4294967296+((b+d / 4294967296)%4294967296+c) / 4294967296:Nat):Int):=by
  rw [aN (by omega)];omega
 rw [u]
theorem LG {V:View}(x y c:Nat)(hx:x<4294967296)(hy:y<4294967296)(hc:c<4294967296) :
  ae prog 225 #[.int .u32 (x:Int),.int .u32 (y:Int),.int .u32 (c:Int)] V fun r V'=>r=.tuple #[.int .u32 (((x+y+c)%4294967296:Nat):Int),.int .u32 (((x+y+c) / 4294967296:Nat):Int)]:=by
 refine oX _ _ _ V _ ⟨by omega,fun d e=>?_⟩;simp (disch:=omega) only [aN,iA,lN];have a:((x:Int)+y+c)%4294967296=(((x+y+c)%4294967296:Nat):Int):=by omega
 have b:((x:Int)+y+c) / 4294967296%4294967296=(((x+y+c) / 4294967296:Nat):Int):=by omega
 rw [a,b]
theorem J_ (a b:Nat)(ha:a<4294967296)(hb:b<4294967296):bz .or .u64 (b:Int) ((a:Int)*4294967296)=(b:Int)+(a:Int)*4294967296:=by
 have h:bz .or .u64 (b:Int) ((a:Int)*4294967296)=bz .or .u64 ((a:Int)*4294967296) (b:Int):=by
  simp only [bz,BitVec.or_comm]
 rw [h,Dc a b ha hb];omega
theorem Sl (b:Nat)(hb:b<4294967296):bz .or .u64 0 (b:Int)=b:=by
 have:=Dc 0 b (by omega) hb;simpa using this
theorem kS {V:View}{p:OA}{n c:Nat}{ds:List Nat}(h:RD V p n c ds)(hm:ds.length<=1099511627776) :
  ae prog 193 #[.slice p n c] V fun r V'=>r=.tuple #[.int .u64 ((if val ds<18446744073709551616 then val ds else 0:Nat):Int),.bool (decide (val ds<18446744073709551616))]:=by
 refine DX p n c V _ fun y q=>(aW (h.le q) (by omega)).mono ?_;rintro r V2 A ⟨n,rfl,e⟩;rw [aR h.fk] at e;generalize val ds=x at *;have B:=e.len;have C:(ai x).length<=2↔x<18446744073709551616:=aD (k:=2);refine ⟨_,_,_,rfl,fun a D E=>?_,fun a=>?_⟩
 ·have a:¬x<18446744073709551616:=by simp at a;omega
  rw [if_neg a,decide_eq_false a];rfl
 ·have m:x<18446744073709551616:=by simp at a;omega
  rw [if_pos m,decide_eq_true m];have F:n<=2:=by omega
  refine ⟨fun z V'=>0<=z.2/\z.2<=n/\z.1=(val ((ai x).take z.2.toNat):Int),fun z=>n-z.2.toNat,⟨(0,0),by (try dsimp only);and_intros<;>trivial,by (try dsimp only);omega,by (try dsimp only);omega,by simp⟩,?_⟩;rintro ⟨u,i⟩ G s ⟨d,f,hu⟩;dsimp only at d f hu ⊢;subst hu;obtain ⟨i,rfl⟩:=Int.eq_ofNat_of_zero_le d;simp only [Int.toNat_natCast];refine ⟨by trivial,fun b=>?_,fun b H I=>?_⟩
  ·have b:i<n:=by simpa using b
   refine (e.le s).rd i rfl (by omega) ?_;have o:=(aA x).get (i:=i) (by omega);simp (disch:=omega) only [aw];refine ⟨by omega,(_,_),?_,by (try dsimp only);and_intros<;>trivial,?_⟩
   ·(try dsimp only);omega
   ·(try dsimp only)
    refine ⟨by omega,by omega,?_⟩;have g:((i:Int)+1).toNat=i+1:=by omega
    rw [g,au _ _ (by omega)];have t:i=0\/i=1:=by omega
    rcases t with rfl|rfl
    ·simp (disch:=omega) only [aN];have j:(min ((32:Int)*((0:Nat):Int)).toNat IntKind.u64.bits)=0:=by decide
     rw [j];simp (disch:=omega) only [aN,Int.pow_zero,Int.mul_one,List.take_zero,eA,Nat.pow_zero,Nat.one_mul,Nat.zero_add];exact Sl _ o
    ·have j:(min ((32:Int)*((1:Nat):Int)).toNat IntKind.u64.bits)=32:=by decide
     have a:0<(ai x).length:=by omega
     have l:=(aA x).get (i:=0) a;have v:(ai x).take 1=[(ai x)[0]]:=by rw [List.take_succ_eq_append_getElem a];rfl
     have w:((2:Int)^32)=4294967296:=by decide
     rw [j,v,w];simp (disch:=omega) only [aN];simp only [bq,eA,Nat.mul_zero,Nat.add_zero];rw [J_ _ _ o l];omega
  ·have b:i=n:=by simp at b;omega
   subst b;rw [aq (by omega),af]
theorem gD {V:View}{p:OA}{n c:Nat}{ds:List Nat}(h:RD V p n c ds)(hm:ds.length<=1099511627776) :
  ae prog 189 #[.slice p n c] V fun r V'=>r=.int .i64 (bG (val ds):Int):=by
 have k:=bo h.fk;refine DV p n c V _ fun t l=>(aW (h.le l) (by omega)).mono ?_;rintro r V2 u ⟨n,rfl,g⟩;rw [aR h.fk] at g;generalize val ds=x at *;have m:=g.len;refine ⟨_,_,_,rfl,fun f v w=>?_,fun f=>?_⟩
 ·have:ai x=[]:=List.length_eq_zero_iff.1 (by simp at f;omega);have:=bH.1 this;subst this;rfl
 ·have f:0<n:=by simp at f;omega
  simp (disch:=omega) only [aw];refine g.rd (n-1) (by omega) (by omega) fun y z=>(gx _ ((aA x).get (by omega))).mono ?_;rintro r A B rfl;refine ⟨_,rfl,fun C D=>?_⟩;have E:=(aA x).get (i:=n-1) (by omega)
  have a:(ai x)[n-1]≠0:=by
   have:=(je x).last (by omega);simpa [m] using this
  have F:bG (ai x)[n-1]<=32:=fR.2 (by omega);simp (disch:=omega) only [aw]
  have key:bG x=32*(n-1)+bG (ai x)[n-1]:=by
   have e:=gJ (ai x) (n-1) (by omega);rw [af,List.drop_of_length_le (by omega)] at e;simp only [eA,Nat.mul_zero,Nat.add_zero] at e;have b:=gj ((aA x).take (n-1));rw [List.length_take,Nat.min_eq_left (by omega)] at b;have j:(4294967296:Nat)^(n-1)=2^(32*(n-1)):=by rw [Nat.pow_mul]
   rw [j] at e b;generalize (ai x)[n-1]=d at *;have o:=pX d;have q:=pV a;have s:0<bG d:=by unfold bG;rw [if_neg a];omega
   refine sw ?_ (.inr ?_)
   ·rw [Nat.pow_add];have:2^(32*(n-1))*(d+1)<=2^(32*(n-1))*2^bG d:=Nat.mul_le_mul_left _ o;rw [Nat.mul_add,Nat.mul_one] at this;omega
   ·rw [show 32*(n-1)+bG d-1=32*(n-1)+(bG d-1) from by omega,Nat.pow_add];have:2^(32*(n-1))*2^(bG d-1)<=2^(32*(n-1))*d:=Nat.mul_le_mul_left _ q;omega
  rw [key];congr 1;omega
theorem C5 {E S c t x y e Y B D:Nat}(h:E+B*D*c=S+B*x*Y)(ht:t=c+x*y+e) :
  E+B*D*(t%4294967296)+B*D*4294967296*(t / 4294967296)=S+B*D*e+B*x*(Y+D*y):=by
 have a:B*D*(t%4294967296)+B*D*4294967296*(t / 4294967296)=B*D*t:=by
  rw [Nat.mul_assoc (B*D),←Nat.mul_add,Nat.mod_add_div]
 rw [Nat.add_assoc,a,ht];grind
theorem gE {V:View}{p q:OA}{n c m e:Nat}{xa xb:List Nat}(ha:RD V p n c xa)(hb:RD V q m e xb)(hm:xa.length+xb.length<=1099511627776) :
  ae prog 150 #[.slice p n c,.slice q m e] V fun r V'=>∃p' n' c',r=.slice p' n' c'/\RN V' p' n' c' (val xa*val xb):=by
 have la:=bo ha.fk;have lb:=bo hb.fk;refine FQ p n c q m e V _ fun V1 M=>(aW (ha.le M) (by omega)).mono ?_;rintro r V2 T ⟨n,rfl,o⟩;rw [aR ha.fk] at o;refine ⟨_,_,_,rfl,fun V3 N=>(aW (hb.le (M.trans (T.trans N))) (by omega)).mono ?_⟩;rintro r V4 U ⟨m,rfl,C⟩;rw [aR hb.fk] at C
 replace o:=o.le (N.trans U)
 have W:=o.len;have zU:=C.len;have O:val xa=val (ai (val xa)):=(af _).symm;have P:val xb=val (ai (val xb)):=(af _).symm;rw [O,P];clear O P;generalize ai (val xa)=xs at *;generalize ai (val xb)=ys at *;refine ⟨_,_,_,rfl,?_⟩;simp (disch:=omega) only [aw,cK];have E:((n:Int)+m).toNat=n+m:=by omega
 rw [E]
 refine ⟨by omega,by omega,by omega,fun z V'=>0<=z.1/\z.1<=n/\∃es:List Nat,z.2=aB es/\es.length=n+m/\bV es /\
  val (es.take (z.1.toNat+m))=val (xs.take z.1.toNat)*val ys,fun z=>n-z.1.toNat,⟨(0,aB (List.replicate (n+m) 0)),by (try dsimp only);and_intros<;>trivial,by (try dsimp only);omega,by (try dsimp only);omega,_,rfl,by simp,bV.rep _,by simp [uz,List.take_replicate]⟩,?_⟩
 rintro ⟨i,X⟩ V5 Q ⟨u,F,es,rfl,G,g,v⟩;dsimp only at u F v ⊢;obtain ⟨i,rfl⟩:=Int.eq_ofNat_of_zero_le u;simp only [Int.toNat_natCast] at v;refine ⟨by trivial,fun s=>?_,fun s=>?_⟩
 ·have s:i<n:=by simpa using s
  refine (o.le Q).rd i rfl (by omega) ?_;have zS:=o.fk.get (i:=i) (by omega)
  refine ⟨fun z V'=>0<=z.1/\z.1<=4294967295/\0<=z.2.1/\z.2.1<=m/\∃a:List Nat,z.2.2=aB a/\a.length=n+m/\bV a/\a.drop (i+z.2.1.toNat)=es.drop (i+z.2.1.toNat) /\
   val (a.take (i+z.2.1.toNat))+4294967296^(i+z.2.1.toNat)*z.1.toNat=val (es.take (i+z.2.1.toNat))+4294967296^i*xs[i]*val (ys.take z.2.1.toNat),fun z=>m-z.2.1.toNat,
   ⟨(0,0,aB es),by (try dsimp only);and_intros<;>trivial,by (try dsimp only);omega,by (try dsimp only);omega,by (try dsimp only);omega,by (try dsimp only);omega,es,rfl,G,g,rfl,by simp⟩,?_⟩
  rintro ⟨D,k,X⟩ Y R ⟨w,H,y,I,a,rfl,A,h,f,hw⟩;dsimp only at w H y I f hw ⊢;obtain ⟨k,rfl⟩:=Int.eq_ofNat_of_zero_le y;obtain ⟨D,rfl⟩:=Int.eq_ofNat_of_zero_le w;simp only [Int.toNat_natCast] at f hw;refine ⟨by trivial,fun d=>?_,fun d=>?_⟩
  ·have d:k<m:=by simpa using d
   refine (C.le (Q.trans R)).rd k rfl (by omega) ?_;have Z:=C.fk.get (i:=k) (by omega);have Ve:=h.get (i:=i+k) (by omega)
   have J:a[i+k]'(by omega)=es[i+k]'(by omega):=by
    have S:a[i+k]?=es[i+k]?:=by
     have:=congrArg (fun l=>l[0]?) f;simpa [List.getElem?_drop] using this
    rw [List.getElem?_eq_getElem (by omega),List.getElem?_eq_getElem (by omega)] at S;exact Option.some.inj S
   simp (disch:=omega) only [aw];have j:((i:Int)+k).toNat=i+k:=by omega
   rw [j];refine ⟨⟨by omega,by omega⟩,((a[i+k]'(by omega):Nat):Int),by rw [Nat.zero_add,Nat.mul_one];exact gg (by omega),⟨by omega,by omega⟩,by simp;omega,by omega,?_⟩;have a0:xs[i]*ys[k]<=4294967295*4294967295:=Nat.mul_le_mul (by omega) (by omega);have Ph:(xs[i]:Int)*(ys[k]:Int)=((xs[i]*ys[k]:Nat):Int):=by simp
   obtain ⟨t,ht⟩:∃t:Nat,t=D+xs[i]*ys[k]+a[i+k]'(by omega):=⟨_,rfl⟩;rw [Nat.pow_add] at hw;have b:=C5 hw ht
   have e1:u64.wrap ((D:Int)+u64.wrap (u64.wrap (u64.wrap (xs[i]:Int)*u64.wrap (ys[k]:Int))+u64.wrap ((a[i+k]'(by omega):Nat):Int)))=(t:Int):=by
    clear b;generalize xs[i]*ys[k]=pq at *;rw [aN (x:=(xs[i]:Int)) (by omega),aN (x:=(ys[k]:Int)) (by omega),Ph,aN (x:=((pq:Nat):Int)) (by omega)];simp (disch:=omega) only [aN];omega
   rw [e1,iA,lN];refine ⟨(_,_,_),?_,by (try dsimp only);and_intros<;>trivial,?_⟩
   ·(try dsimp only);omega
   ·(try dsimp only)
    have B:((k:Int)+1).toNat=k+1:=by omega
    refine ⟨by omega,by omega,by omega,by omega,a.set (i+k) (t%4294967296),?_,by simpa using A,h.set _ _ (by omega),?_,?_⟩
    ·rw [←bD];simp
    ·rw [B,List.drop_set_of_lt (by omega)];have:=congrArg (List.drop 1) f;simpa [List.drop_drop,Nat.add_comm,Nat.add_assoc,Nat.add_left_comm] using this
    ·rw [B,show i+(k+1)=i+k+1 from by omega,aJ _ _ _ (by omega),au es (i+k) (by omega),au ys k (by omega),←J,Nat.pow_succ];have e2:((t:Int) / 4294967296).toNat=t / 4294967296:=by omega
     rw [e2,Nat.pow_add,b]
  ·have d:k=m:=by simp at d;omega
   subst d;simp (disch:=omega) only [aw];have j:((i:Int)+k).toNat=i+k:=by omega
   rw [j];refine ⟨⟨by omega,by omega⟩,by simp;omega,(_,_),?_,by (try dsimp only);and_intros<;>trivial,?_⟩
   ·(try dsimp only);omega
   ·(try dsimp only)
    have K:((i:Int)+1).toNat=i+1:=by omega
    refine ⟨by omega,by omega,a.set (i+k) D,?_,by simpa using A,h.set _ _ (by omega),?_⟩
    ·rw [←bD,qB (by omega)];simp
    ·rw [K,show i+1+k=i+k+1 from by omega,aJ _ _ _ (by omega),hw,v,au xs i (by omega),aq (ds:=ys) (by omega)];grind
 ·have s:i=n:=by simp at s;omega
  subst s;intro Y R bk L;refine (aW (RD.bw L g (n:=i+m) (c:=i+m) (by omega) (Nat.le_refl _)) (by omega)).mono ?_;rintro r V7 l7 ⟨k,rfl,d⟩;refine ⟨_,_,_,rfl,fun _ V8 l8=>⟨_,_,_,rfl,?_⟩⟩;rw [aR g] at d;rw [aq (by omega),aq (by omega)] at v;rw [v] at d;exact d.le l8
theorem wv {x A d q r rest B W:Nat}(hA:A=d*B+rest)(h:d*q+r=rest*W+x):x+W*A=d*(q+W*B)+r:=by
 subst hA;grind
theorem Cm {V:View}{p:OA}{n c:Nat}{xs:List Nat}(hx:RD V p n c xs)(hm:xs.length<=1099511627776)(d:Nat)(hd0:d≠0)(hd:d<4294967296) :
  ae prog 232 #[.slice p n c,.int .u32 (d:Int)] V fun r V'=>∃p' n' c',r=.tuple #[.slice p' n' c',.int .u32 ((val xs%d:Nat):Int)]/\RN V' p' n' c' (val xs / d):=by
 have w:=hx.len;refine BJ p n c d V _ ⟨by omega,by omega,by omega,?_⟩;simp (disch:=omega) only [aw,aN,Int.toNat_natCast,cK]
 refine ⟨fun z V'=>0<=z.1/\z.1<d/\-1<=z.2.1/\z.2.1<n/\∃es:List Nat,z.2.2=aB es/\es.length=n/\bV es /\
   val (xs.drop (z.2.1+1).toNat)=d*val (es.drop (z.2.1+1).toNat)+z.1.toNat,fun z=>(z.2.1+1).toNat,
   ⟨(0,(n:Int)-1,aB (List.replicate n 0)),by (try dsimp only);and_intros<;>trivial,by (try dsimp only);omega,by (try dsimp only);omega,by (try dsimp only);omega,by (try dsimp only);omega,_,rfl,by simp,bV.rep _,?_⟩,?_⟩
 ·(try dsimp only)
  rw [List.drop_of_length_le (by omega),List.drop_of_length_le (by simp)];rfl
 rintro ⟨rest,i,G⟩ V2 x ⟨f,g,h,j,es,rfl,m,b,a⟩;dsimp only at f g h j a ⊢;obtain ⟨rest,rfl⟩:=Int.eq_ofNat_of_zero_le f;refine ⟨by trivial,fun e=>?_,fun e=>?_⟩
 ·have e:0<=i:=by simpa using e
  obtain ⟨i,rfl⟩:=Int.eq_ofNat_of_zero_le e;have o:((i:Int)+1).toNat=i+1:=by omega
  rw [o] at a;simp only [Int.toNat_natCast] at a;refine ⟨by omega,(hx.le x).rd i rfl (by omega) ?_⟩;have y:=hx.fk.get (i:=i) (by omega)
  have s:bz .or .u64 (u64.wrap ((rest:Int)*2^32)) (u64.wrap ((xs[i]:Nat):Int))=((rest*4294967296+xs[i]:Nat):Int):=by
   have A:((2:Int)^32)=4294967296:=by decide
   rw [A,aN (by omega),aN (by omega),Dc _ _ (by omega) y];omega
  rw [s]
  have t:((rest*4294967296+xs[i]:Nat):Int).tdiv (d:Int)=(((rest*4294967296+xs[i]) / d:Nat):Int):=by
   rw [Int.tdiv_eq_ediv_of_nonneg (by omega)];omega
  have B:((rest*4294967296+xs[i]:Nat):Int).tmod (d:Int)=(((rest*4294967296+xs[i])%d:Nat):Int):=by
   rw [Int.tmod_eq_emod_of_nonneg (by omega)];omega
  rw [t,B]
  have H:(rest*4294967296+xs[i]) / d<4294967296:=by
   rw [Nat.div_lt_iff_lt_mul (by omega)];have:rest+1<=d:=by omega
   have:=Nat.mul_le_mul_right 4294967296 this;rw [Nat.mul_comm 4294967296 d];omega
  have I:(rest*4294967296+xs[i])%d<d:=Nat.mod_lt _ (by omega);have C:=Nat.div_add_mod (rest*4294967296+xs[i]) d;generalize (rest*4294967296+xs[i]) / d=q at *;generalize (rest*4294967296+xs[i])%d=r at *;simp (disch:=omega) only [aN,qB,aw];refine ⟨by omega,⟨by omega,by omega⟩,by simp;omega,by omega,?_⟩;refine ⟨((r:Int),(i:Int)-1,aB (es.set i q)),?_,?_,?_⟩
  ·(try dsimp only);omega
  ·(try dsimp only);and_intros<;>first|trivial|(rw [←bD];simp)
  ·(try dsimp only)
   refine ⟨by omega,by omega,by omega,by omega,_,rfl,by simpa using m,b.set _ _ (by omega),?_⟩;have u:((i:Int)-1+1).toNat=i:=by omega
   rw [u,List.drop_eq_getElem_cons (by omega),List.drop_eq_getElem_cons (l:=es.set i q) (by simp;omega),List.getElem_set_self,List.drop_set_of_lt (by omega)];have D:xs[i]+4294967296*val (List.drop (i+1) xs)=d*(q+4294967296*val (List.drop (i+1) es))+r:=wv a C;rw [bq,bq,Int.toNat_natCast];exact D
 ·have e:i=-1:=by simp at e;omega
  subst e;simp only [Int.toNat_natCast] at a;have a:val xs=d*val es+rest:=by simpa using a
  intro J K L E;refine (aW (RD.bw E b (n:=n) (c:=n) (by omega) (Nat.le_refl _)) (by omega)).mono ?_;rintro r M N ⟨k,rfl,v⟩;refine ⟨_,_,_,rfl,fun _ O F=>?_⟩;have s:val xs / d=val es:=by rw [a,Nat.mul_add_div (by omega),Nat.div_eq_of_lt (by omega),Nat.add_zero]
  have t:val xs%d=rest:=by rw [a,Nat.mul_add_mod,Nat.mod_eq_of_lt (by omega)]
  rw [qB (by omega),s,t];rw [aR b] at v;exact ⟨_,_,_,rfl,v.le F⟩
theorem Fk (a b:Nat)(ha:a<4294967296)(hb:b<4294967296):bz .or .u32 (a:Int) (b:Int)=((a ||| b:Nat):Int):=by
 rw [bz,iA]
 have c:(BitVec.ofInt IntKind.u32.bits ((a:Nat):Int) ||| BitVec.ofInt IntKind.u32.bits (b:Int)).toNat=a ||| b:=by
  show (BitVec.ofInt 32 ((a:Nat):Int) ||| BitVec.ofInt 32 (b:Int)).toNat=_;rw [BitVec.ofInt_natCast,BitVec.ofInt_natCast,BitVec.toNat_or,BitVec.toNat_ofNat,BitVec.toNat_ofNat,Nat.mod_eq_of_lt (by omega),Nat.mod_eq_of_lt (by omega)]
 have d:a ||| b<2^32:=Nat.or_lt_two_pow (by omega) (by omega);rw [c];omega
theorem PF {c m r:Nat}(h:c<2^r):c ||| m*2^r=c+m*2^r:=by
 rw [Nat.or_comm,←Nat.shiftLeft_eq,←Nat.shiftLeft_add_eq_or_of_lt h,Nat.add_comm]
theorem Dy {d r c:Nat}(hd:d<4294967296)(hr:r<32)(hc:c<2^r) :
  c ||| (d*2^r%4294967296)=c+d*2^r%4294967296/\c+d*2^r%4294967296<4294967296/\d*2^r / 4294967296<2^r/\d*2^r<18446744073709551616:=by
 have e:4294967296=2^(32-r)*2^r:=by rw [←Nat.pow_add,Nat.sub_add_cancel (by omega)]
 have a:d*2^r%4294967296=(d%2^(32-r))*2^r:=by
  rw [e,Nat.mul_mod_mul_right]
 have f:d%2^(32-r)+1<=2^(32-r):=Nat.mod_lt _ (Nat.two_pow_pos _);have b:=Nat.mul_le_mul_right (2^r) f;have h:2^r<=2^31:=Nat.pow_le_pow_right (by omega) (by omega);have g:d*2^r<4294967296*2^r:=Nat.mul_lt_mul_of_pos_right hd (Nat.two_pow_pos _);refine ⟨by rw [a,PF hc],?_,?_,by omega⟩
 ·rw [a];rw [Nat.add_mul,Nat.one_mul] at b;rw [←e] at b;omega
 ·rw [Nat.div_lt_iff_lt_mul (by omega),Nat.mul_comm (2^r)];exact g
theorem zA {V:View}{p:OA}{n c:Nat}{ds:List Nat}(h:RD V p n c ds)(hm:ds.length<=1099511627776)(k:Nat)(hk:k<=1048576) :
  ae prog 246 #[.slice p n c,.int .u64 (k:Int)] V fun r V'=>∃p' n' c',r=.slice p' n' c'/\RN V' p' n' c' (val ds*2^k)/\(val ds=0\/c'=(ai (val ds)).length+k / 32+1):=by
 have G:=bo h.fk;refine FR p n c k V _ fun Y H=>(aW (h.le H) (by omega)).mono ?_;rintro r V2 Z ⟨n,rfl,o⟩;rw [aR h.fk] at o;generalize hxv:val ds=x at *;have hl:=o.len;refine ⟨_,_,_,rfl,fun m V3 l3=>?_,fun m=>?_⟩
 ·have:ai x=[]:=List.length_eq_zero_iff.1 (by simp at m;omega);have:=bH.1 this;subst this;rw [Nat.zero_mul];exact ⟨_,_,_,rfl,RD.nil,.inl rfl⟩
 ·have m:0<n:=by simp at m;omega
  have C:bS (k:Int) 1048576=k:=by unfold bS;rw [if_neg (by omega)]
  have D:(k:Int).tdiv 32=((k / 32:Nat):Int):=by rw [Int.tdiv_eq_ediv_of_nonneg (by omega)];omega
  have E:(k:Int).tmod 32=((k%32:Nat):Int):=by rw [Int.tmod_eq_emod_of_nonneg (by omega)];omega
  rw [C,D,E]
  have q:x*2^k=4294967296^(k / 32)*x*2^(k%32):=by
   have:2^k=4294967296^(k / 32)*2^(k%32):=by
    rw [show (4294967296:Nat)=2^32 from rfl,←Nat.pow_mul,←Nat.pow_add,Nat.div_add_mod]
   rw [this];grind
  rw [q];generalize hw:k / 32=w at *;have s:k%32<32:=Nat.mod_lt _ (by omega);have I:w<=32768:=by omega
  generalize k%32=r at *;clear C D E;simp (disch:=omega) only [aw,aN,cK];have t:((n:Int)+w+1).toNat=n+w+1:=by omega
  rw [t]
  refine ⟨by omega,by omega,by omega,by omega,by omega,fun z V'=>0<=z.1/\z.1<=n/\∃es:List Nat,z.2=aB es/\es.length=n+w+1/\bV es/\(∀c,es[z.1.toNat+w]?=some c->c<2^r) /\
   val (es.take (z.1.toNat+w+1))=4294967296^w*val ((ai x).take z.1.toNat)*2^r,fun z=>n-z.1.toNat,
   ⟨(0,aB (List.replicate (n+w+1) 0)),by (try dsimp only);and_intros<;>trivial,by (try dsimp only);omega,by (try dsimp only);omega,_,rfl,by simp,bV.rep _,?_,?_⟩,?_⟩
  ·intro c a;rw [List.getElem?_replicate] at a;split at a
   ·cases a;exact Nat.two_pow_pos r
   ·cases a
  ·simp [List.take_replicate,uz]
  rintro ⟨i,vs⟩ V4 J ⟨f,u,es,rfl,v,b,a,d⟩;dsimp only at f u a d ⊢;obtain ⟨i,rfl⟩:=Int.eq_ofNat_of_zero_le f;simp only [Int.toNat_natCast] at a d;refine ⟨by trivial,fun e=>?_,fun e=>?_⟩
  ·have e:i<n:=by simpa using e
   refine (o.le J).rd i rfl (by omega) ?_;have K:=(aA x).get (i:=i) (by omega);have y:=a (es[i+w]'(by omega)) (List.getElem?_eq_getElem _);obtain ⟨L,g2,M,g4⟩:=Dy K s y
   have g:(min ((r:Nat):Int).toNat IntKind.u64.bits)=r:=by
    show min _ 64=r;omega
   have N:((2:Int)^r)=((2^r:Nat):Int):=by simp
   rw [g,N];have hmul:(((ai x)[i]:Nat):Int)*((2^r:Nat):Int)=(((ai x)[i]*2^r:Nat):Int):=by simp
   simp (disch:=omega) only [aw];rw [aN (x:=(((ai x)[i]:Nat):Int)) (by omega),hmul,aN (by omega),iA,lN];have A:((i:Int)+w).toNat=i+w:=by omega
   have O:((i:Int)+w+1).toNat=i+w+1:=by omega
   rw [A,O];refine ⟨by omega,⟨by omega,by omega⟩,((es[i+w]'(by omega):Nat):Int),by rw [Nat.zero_add,Nat.mul_one];exact gg (by omega),⟨by omega,by omega⟩,by simp;omega,by omega,⟨by omega,by omega⟩,by simp;omega,?_⟩;have P:(((ai x)[i]*2^r:Nat):Int)%4294967296=(((ai x)[i]*2^r%4294967296:Nat):Int):=by omega
   have Q:(((ai x)[i]*2^r:Nat):Int) / 4294967296=(((ai x)[i]*2^r / 4294967296:Nat):Int):=by omega
   rw [P,Q,Fk _ _ (by omega) (by omega),L];have R:=Nat.mod_add_div ((ai x)[i]*2^r) 4294967296;have S:(ai x)[i]*2^r / 4294967296<4294967296:=by omega
   have B:val (List.take (i+1) (ai x))=val (List.take i (ai x))+4294967296^i*(ai x)[i]:=au _ _ (by omega);have T:val (es.take (i+w+1))=val (es.take (i+w))+4294967296^(i+w)*es[i+w]'(by omega):=au _ _ (by omega);generalize (ai x)[i]*2^r%4294967296=lo at *;generalize hhi:(ai x)[i]*2^r / 4294967296=hi at *;rw [qB (by omega)];refine ⟨((i:Int)+1,aB ((es.set (i+w) (es[i+w]'(by omega)+lo)).set (i+w+1) hi)),?_,?_,?_⟩
   ·(try dsimp only);omega
   ·(try dsimp only);and_intros<;>first|trivial|(rw [←bD,←bD];simp)
   ·(try dsimp only)
    have j:((i:Int)+1).toNat=i+1:=by omega
    refine ⟨by omega,by omega,_,rfl,by simpa using v,(b.set _ _ (by omega)).set _ _ (by omega),?_,?_⟩
    ·intro c l;rw [j,show i+1+w=i+w+1 from by omega,List.getElem?_set_self (by simp;omega)] at l;cases l;exact M
    ·rw [j,show i+1+w+1=i+w+1+1 from by omega,aJ _ _ _ (by simp;omega),aJ _ _ _ (by omega),B];rw [T] at d;have U:4294967296^(i+w+1)*hi=4294967296^(i+w)*(4294967296*hi):=by rw [Nat.pow_succ];grind
     rw [U,Nat.mul_add,←Nat.add_assoc,d,Nat.add_assoc,←Nat.mul_add,R,Nat.pow_add];grind
  ·have e:i=n:=by simp at e;omega
   subst e;intro V5 l5 bk W;refine (aW (RD.bw W b (n:=i+w+1) (c:=i+w+1) (by omega) (Nat.le_refl _)) (by omega)).mono ?_;rintro r' V6 l6 ⟨k',rfl,F⟩;refine ⟨_,_,_,rfl,fun _ V7 X=>⟨_,_,_,rfl,?_,.inr (by omega)⟩⟩;rw [aq (by omega),aq (by omega),af] at d;rw [aR b,d] at F;exact F.le X
theorem Dz {d Y r:Nat}(hd:d<4294967296)(hr:r<32) :
  (d+4294967296*Y) / 2^r=(d+4294967296*(Y%4294967296)) / 2^r%4294967296+4294967296*(Y / 2^r):=by
 have e:4294967296=2^r*2^(32-r):=by rw [←Nat.pow_add,Nat.add_sub_cancel' (by omega)]
 have c:=Nat.two_pow_pos r;have l:=Nat.two_pow_pos (32-r);generalize ha:2^r=a at *;generalize hb:2^(32-r)=b at *
 have f:∀Z,(d+4294967296*Z) / a=d / a+b*Z:=by
  intro Z;rw [e,Nat.mul_assoc,Nat.add_mul_div_left _ _ c]
 rw [f,f]
 have g:d / a<b:=by
  rw [Nat.div_lt_iff_lt_mul c,Nat.mul_comm,←e];exact hd
 have h:b*(Y%4294967296)%4294967296=b*(Y%a):=by
  rw [e,Nat.mul_comm a b,Nat.mul_mod_mul_left,Nat.mod_mul_left_mod]
 have m:b*(Y%a)+b<=4294967296:=by
  have:Y%a+1<=a:=Nat.mod_lt _ c;have:=Nat.mul_le_mul_left b this;rw [Nat.mul_add,Nat.mul_one,Nat.mul_comm b a,←e] at this;exact this
 have i:(d / a+b*(Y%4294967296))%4294967296=d / a+b*(Y%a):=by
  rw [Nat.add_mod,h,Nat.mod_eq_of_lt (a:=d / a) (by omega),Nat.mod_eq_of_lt (by omega)]
 rw [i];have j:=Nat.mod_add_div Y a
 have k:b*Y=b*(Y%a)+4294967296*(Y / a):=by
  conv=>lhs;rw [←j]
  rw [Nat.mul_add,←Nat.mul_assoc,Nat.mul_comm b a,←e]
 rw [k];omega
theorem qC {xs:List Nat}(h:bV xs)(i:Nat):val (xs.drop i)%4294967296=(xs[i]?).getD 0:=by
 rcases Nat.lt_or_ge i xs.length with a|a
 ·rw [List.drop_eq_getElem_cons a,bq,List.getElem?_eq_getElem a,Option.getD_some,Nat.add_mul_mod_self_left,Nat.mod_eq_of_lt (h.get a)]
 ·rw [List.drop_of_length_le a,List.getElem?_eq_none a];rfl
theorem Hm {V:View}{p:OA}{n c:Nat}{ds:List Nat}(h:RD V p n c ds)(hm:ds.length<=1099511627776)(k:Nat)(hk:k<18446744073709551616) :
  ae prog 247 #[.slice p n c,.int .u64 (k:Int)] V fun r V'=>∃p' n' c',r=.slice p' n' c'/\RN V' p' n' c' (val ds / 2^k):=by
 have T:=bo h.fk;refine FT p n c k V _ fun V1 U=>(aW (h.le U) (by omega)).mono ?_;rintro r V2 l2 ⟨n,rfl,B⟩;rw [aR h.fk] at B;generalize val ds=x at *;have hl:=B.len;have P:(k:Int).tdiv 32=((k / 32:Nat):Int):=by rw [Int.tdiv_eq_ediv_of_nonneg (by omega)];omega
 have C:(k:Int).tmod 32=((k%32:Nat):Int):=by rw [Int.tmod_eq_emod_of_nonneg (by omega)];omega
 refine ⟨_,_,_,rfl,?_⟩;rw [P,C]
 have q:x / 2^k=x / 4294967296^(k / 32) / 2^(k%32):=by
  rw [Nat.div_div_eq_div_mul,show (4294967296:Nat)=2^32 from rfl,←Nat.pow_mul,←Nat.pow_add,Nat.div_add_mod]
 rw [q];have W:k / 32<576460752303423488:=by omega
 generalize k / 32=w at *;have E:k%32<32:=Nat.mod_lt _ (by omega);generalize k%32=r at *;clear P C q;refine ⟨by omega,fun j V3 l3=>?_,fun j=>?_⟩
 ·have j:n<=w:=by
   rw [aN (by omega),aN (by omega)] at j;simp at j;omega
  have:x / 4294967296^w=0:=Nat.div_eq_of_lt (Nat.lt_of_lt_of_le (aD.1 (Nat.le_refl _)) (Nat.pow_le_pow_right (by omega) (by omega)));rw [this,Nat.zero_div];exact ⟨_,_,_,rfl,RD.nil⟩
 ·have j:w<n:=by
   rw [aN (by omega),aN (by omega)] at j;simp at j;omega
  simp (disch:=omega) only [aw,aN,cK];have F:((n:Int)-w).toNat=n-w:=by omega
  rw [F]
  have G:x / 4294967296^w=val ((ai x).drop w):=by
   have e:val (ai x)=val ((ai x).take w++(ai x).drop w):=by rw [List.take_append_drop]
   have s:=gj ((aA x).take w);rw [df,af] at e;rw [List.length_take,Nat.min_eq_left (by omega)] at e s
   have g:∀y,y=val ((ai x).take w)+4294967296^w*val ((ai x).drop w)->y / 4294967296^w=val ((ai x).drop w):=by
    intro y X;rw [X,Nat.add_mul_div_left _ _ (Nat.pow_pos (by omega)),Nat.div_eq_of_lt s,Nat.zero_add]
   exact g x e
  rw [G]
  refine ⟨by omega,by omega,by omega,by omega,by omega,fun z V'=>0<=z.1/\z.1<=(n-w:Nat)/\∃es:List Nat,z.2=aB es/\es.length=n-w/\bV es /\
   val (es.take z.1.toNat)+4294967296^z.1.toNat*(val ((ai x).drop (w+z.1.toNat)) / 2^r)=val ((ai x).drop w) / 2^r,fun z=>(n-w)-z.1.toNat,
   ⟨(0,aB (List.replicate (n-w) 0)),by (try dsimp only);and_intros<;>trivial,by (try dsimp only);omega,by (try dsimp only);omega,_,rfl,by simp,bV.rep _,by simp⟩,?_⟩
  rintro ⟨i,vs⟩ V4 Q ⟨t,H,es,rfl,I,m,b⟩;dsimp only at t H b ⊢;obtain ⟨i,rfl⟩:=Int.eq_ofNat_of_zero_le t;simp only [Int.toNat_natCast] at b;refine ⟨by trivial,fun u=>?_,fun u=>?_⟩
  ·have u:i<n-w:=by simpa using u
   simp (disch:=omega) only [aw];refine (B.le Q).rd (w+i) (by omega) (by omega) ?_;have R:=(aA x).get (i:=w+i) (by omega);have v:=Dz (Y:=val ((ai x).drop (w+i+1))) R E;rw [qC (aA x)] at v
   have d:(min ((r:Nat):Int).toNat IntKind.u64.bits)=r:=by
    show min _ 64=r;omega
   have o:val ((ai x).drop (w+i))=(ai x)[w+i]+4294967296*val ((ai x).drop (w+i+1)):=by
    rw [List.drop_eq_getElem_cons (by omega),bq]
   rw [o] at b;rw [v] at b
   have S:∀D:Nat,D=((ai x)[w+i]+4294967296*((ai x)[w+i+1]?).getD 0) / 2^r%4294967296 ->
     ∃a:List Nat,(aB es).set (0+i*1) (.int .u32 (D:Int))=aB a/\a.length=n-w/\bV a /\
     val (a.take (i+1))+4294967296^(i+1)*(val ((ai x).drop (w+(i+1))) / 2^r)=val ((ai x).drop w) / 2^r:=by
    intro D Z;refine ⟨es.set i D,by rw [←bD];simp,by simpa using I,m.set _ _ (by omega),?_⟩;rw [aJ _ _ _ (by omega),←b,Z,Nat.pow_succ,Nat.mul_add,Nat.add_assoc,Nat.mul_assoc,Nat.add_assoc w i 1]
   have A:((i:Int)+1).toNat=i+1:=by omega
   refine ⟨fun f=>?_,fun f=>?_⟩
   ·have f:w+i+1<n:=by simp at f;omega
    refine (B.le Q).rd (w+i+1) (by omega) (by omega) ?_;have J:=(aA x).get (i:=w+i+1) (by omega)
    have K:bz .or .u64 (u64.wrap (((ai x)[w+i]:Nat):Int)) (u64.wrap (u64.wrap (((ai x)[w+i+1]:Nat):Int)*2^32))=(((ai x)[w+i]+4294967296*((ai x)[w+i+1]?).getD 0:Nat):Int):=by
     have C:((2:Int)^32)=4294967296:=by decide
     rw [C,aN (by omega),aN (x:=(((ai x)[w+i+1]:Nat):Int)) (by omega),aN (by omega),J_ _ _ J R,List.getElem?_eq_getElem (by omega),Option.getD_some];omega
    rw [K,d,fV,iA];refine ⟨by omega,by omega,⟨by omega,by omega⟩,by simp;omega,?_⟩;obtain ⟨a,L,M,N,O⟩:=S _ rfl;refine ⟨((i:Int)+1,aB a),?_,?_,?_⟩
    ·(try dsimp only);omega
    ·(try dsimp only);and_intros<;>first|trivial|(rw [←L];simp)
    ·(try dsimp only)
     exact ⟨by omega,by omega,a,rfl,M,N,by rw [A];exact O⟩
   ·have f:n<=w+i+1:=by simp at f;omega
    have K:u64.wrap (((ai x)[w+i]:Nat):Int)=(((ai x)[w+i]+4294967296*((ai x)[w+i+1]?).getD 0:Nat):Int):=by
     rw [aN (by omega),List.getElem?_eq_none (by omega)];simp
    rw [K,d,fV,iA];refine ⟨by omega,⟨by omega,by omega⟩,by simp;omega,?_⟩;obtain ⟨a,L,M,N,O⟩:=S _ rfl;refine ⟨((i:Int)+1,aB a),?_,?_,?_⟩
    ·(try dsimp only);omega
    ·(try dsimp only);and_intros<;>first|trivial|(rw [←L];simp)
    ·(try dsimp only)
     exact ⟨by omega,by omega,a,rfl,M,N,by rw [A];exact O⟩
  ·have u:i=n-w:=by simp at u;omega
   intro V5 l5 bk hb;refine (aW (RD.bw hb m (n:=n-w) (c:=n-w) (by omega) (Nat.le_refl _)) (by omega)).mono ?_;rintro r' V6 l6 ⟨k',rfl,f⟩;refine ⟨_,_,_,rfl,fun _ V7 l7=>⟨_,_,_,rfl,?_⟩⟩;rw [aq (by omega),List.drop_of_length_le (l:=ai x) (i:=w+i) (by omega)] at b
   have b:val es=val ((ai x).drop w) / 2^r:=by
    rw [←b,eA,Nat.zero_div,Nat.mul_zero,Nat.add_zero]
   rw [aR m,b] at f;exact f.le l7
end Go.Proofs.Tryz
namespace Go.Big
theorem HD {v1 v2 v' u0 u1 u2 t' B W G ρ T Y:Nat}(hY:Y=(v1*W+v2)*B+v')(hT:T=((u0*W+u1)*W+u2)*B+t')(ht:t'<B)
  (hg:G*v1+ρ=u0*W+u1)(hd:ρ*W+u2<G*v2):T<G*Y:=by
 have a:(u0*W+u1)*W+u2+1<=G*(v1*W+v2):=by
  rw [←hg,Nat.mul_add,Nat.add_mul,←Nat.mul_assoc];omega
 have b:=Nat.mul_le_mul_right B a;have c:G*(v1*W+v2)*B<=G*Y:=by rw [hY,Nat.mul_assoc];exact Nat.mul_le_mul_left _ (Nat.le_add_right _ _)
 rw [Nat.add_mul,Nat.one_mul] at b;omega
theorem zP {v1 v2 v' u0 u1 u2 t' B W G ρ T Y:Nat}(hY:Y=(v1*W+v2)*B+v')(hT:T=((u0*W+u1)*W+u2)*B+t')(hv:v'<B)(hv1:1<=v1)(hW:0<W)
  (hg:G*v1+ρ=u0*W+u1)(hd:G*v2<=ρ*W+u2)(hG:G<=W):G*Y<T+Y:=by
 have a:G*(v1*W+v2)<=(u0*W+u1)*W+u2:=by
  rw [←hg,Nat.mul_add,Nat.add_mul,←Nat.mul_assoc];omega
 have d:=Nat.mul_le_mul_right B a;have e:G*v'<=W*v':=Nat.mul_le_mul_right _ hG;have f:W*v'<W*B:=Nat.mul_lt_mul_of_pos_left hv hW
 have g:W*B<=v1*W*B:=by
  have:=Nat.mul_le_mul_right (W*B) hv1;rw [Nat.one_mul,←Nat.mul_assoc] at this;exact this
 have b:(v1*W+v2)*B=v1*W*B+v2*B:=Nat.add_mul _ _ _;have c:G*Y=G*(v1*W+v2)*B+G*v':=by rw [hY,Nat.mul_add,Nat.mul_assoc]
 rw [c,hY,b];omega
theorem zQ {v1 v2 v' u0 u1 u2 t' B W T Y:Nat}(hY:Y=(v1*W+v2)*B+v')(hT:T=((u0*W+u1)*W+u2)*B+t')(hv:v'<B)(h:T<W*Y):u0*W+u1<=v1*W+v2:=by
 rcases Nat.lt_or_ge (v1*W+v2) (u0*W+u1) with a|a
 ·exfalso;have b:(v1*W+v2+1)*W<=(u0*W+u1)*W:=Nat.mul_le_mul_right _ a;have c:=Nat.mul_le_mul_right B b
  have d:W*Y<=W*((v1*W+v2+1)*B):=by
   rw [hY,Nat.add_mul (v1*W+v2) 1 B,Nat.one_mul];exact Nat.mul_le_mul_left _ (by omega)
  have e:W*((v1*W+v2+1)*B)=(v1*W+v2+1)*W*B:=by grind
  have f:(u0*W+u1)*W*B<=T:=by rw [hT,Nat.add_mul ((u0*W+u1)*W) u2 B];omega
  omega
 ·exact a
theorem Jo {v1 v2 v' u0 u1 u2 t' B W G ρ T Y:Nat}(hY:Y=(v1*W+v2)*B+v')(hT:T=((u0*W+u1)*W+u2)*B+t')(ht:t'<B)(hu:u2<W)
  (hg:G*v1+ρ=u0*W+u1)(hr:ρ<v1):T<(G+1)*Y:=by
 have a:u0*W+u1+1<=(G+1)*v1:=by rw [Nat.add_mul,Nat.one_mul];omega
 have d:=Nat.mul_le_mul_right (W*B) a
 have e:(G+1)*v1*(W*B)<=(G+1)*Y:=by
  rw [hY,Nat.mul_assoc];refine Nat.mul_le_mul_left _ ?_;rw [←Nat.mul_assoc,Nat.add_mul];omega
 have f:((u0*W+u1)*W+u2)*B+t'<(u0*W+u1+1)*(W*B):=by
  have b:(u2+1)*B<=W*B:=Nat.mul_le_mul_right _ hu;rw [Nat.add_mul,Nat.one_mul] at b;have c:(u0*W+u1+1)*(W*B)=(u0*W+u1)*W*B+W*B:=by grind
  rw [c,Nat.add_mul ((u0*W+u1)*W) u2 B];omega
 omega
theorem Ao {F U c b g d u Y W S:Nat}{x:Int}(h:F+W*(g*Y)=U+W*S*(c+b))(hc:c<4294967296)(hb:b<=1)(hu:u<4294967296)
  (hx:x=((u:Int)-((c+g*d)%4294967296:Nat)-b)%18446744073709551616) :
  0<=x/\0<=x / 9223372036854775808/\x / 9223372036854775808<=1 /\
  F+W*S*(x%4294967296).toNat+W*(g*(Y+S*d))=U+W*S*u+W*(S*4294967296)*((c+g*d) / 4294967296+(x / 9223372036854775808).toNat):=by
 have n:=Nat.mod_add_div (c+g*d) 4294967296;have hm:(c+g*d)%4294967296<4294967296:=Nat.mod_lt _ (by omega);generalize (c+g*d) / 4294967296=q at *;generalize (c+g*d)%4294967296=m at *
 have key:∃o B:Nat,(x%4294967296).toNat=o/\(x / 9223372036854775808).toNat=B/\u+4294967296*B=o+m+b/\0<=x/\0<=x / 9223372036854775808/\x / 9223372036854775808<=1:=by
  refine ⟨_,_,rfl,rfl,?_,by omega,by omega,by omega⟩;omega
 obtain ⟨o,B,a,e,p,f,i,j⟩:=key;refine ⟨f,i,j,?_⟩;rw [a,e];have k:u+4294967296*(B+q)=o+b+(c+g*d):=by omega
 have l:W*S*u+W*(S*4294967296)*(q+B)=W*S*(u+4294967296*(B+q)):=by grind
 rw [Nat.add_assoc U,l,k];grind
theorem zd {F U c d u Y W S t:Nat}(h:F+W*S*c=U+W*Y)(ht:t=c+u+d) :
  F+W*S*(t%4294967296)+W*(S*4294967296)*(t / 4294967296)=U+W*S*u+W*(Y+S*d):=by
 have a:W*S*(t%4294967296)+W*(S*4294967296)*(t / 4294967296)=W*S*t:=by
  have:=Nat.mod_add_div t 4294967296;have e:W*(S*4294967296)*(t / 4294967296)=W*S*(4294967296*(t / 4294967296)):=by grind
  rw [e,←Nat.mul_add,this]
 rw [Nat.add_assoc,a,ht];grind
end Go.Big
