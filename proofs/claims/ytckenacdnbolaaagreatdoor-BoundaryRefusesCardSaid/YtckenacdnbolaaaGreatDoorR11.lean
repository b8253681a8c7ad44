import Derived.Test.YtckenacdnbolaaaGreatDoorR5
import Derived.Test.YtckenacdnbolaaaGreatDoorCards
import Derived.Test.YtckenacdnbolaaaGreatDoorTie
import Derived.WalkKit
import Derived.ProofKit
import Derived.OpenShut
import Derived.Deep.DeepHandedRow
import Derived.LaidLaws
import Derived.Lay
import Derived.Carry
import Derived.IntWalk
import Derived.Test.YtckenacdnbolaaaGreatDoorR6
import Derived.Shelf.SlLaysF0
import Derived.Shelf.Lays
import Derived.Shelf.Small.Bits
import Derived.Shelf.Bits.Mul64
set_option linter.all false
open Go.IntKind (i64 u64 u32)
namespace Go.Proofs.YtckenacdnbolaaaGreatDoor
open Go.ChangeShapes Go.WideShapes Go.ChangeAt Go.RowKit Go.Eng
theorem own:ownKnob Tryz.prog.godebug=none:=by kernel_rfl
def star : "*" ++ "errors.errorString" = "*errors.errorString" := by decide
def rowE (u : TypeId)(h : Tryz.prog.typeName? 3 u = some "*errors.errorString") : u = 403 :=
 typeName_ptr_named (nm := "errors.errorString") (by rw [star]; kernel_rfl) (by kernel_rfl) (by decide) u (by rw [star]; exact h)
def Xe:Tryz.prog.cellsOf 427=1:=by kernel_rfl
def Xf:Tryz.prog.cellsOf 9=1:=by kernel_rfl
def row0 (g:Nat):MemPlace.cell g 0∈MemPlace.row ⟨g,0,none⟩ 1:=by simp [MemPlace.row]
def VT {P:Program}{W:World}{name:String}{g:Nat}{v:un}(hg:P.globalNamed name=some g)(h:W.var? P name=some #[v]):W.cell? ⟨g,0,none⟩=some v:=by simpa using World.var?_cell hg h 0
set_option maxRecDepth 100000 in
def uE {W:World}{l:pz (String×DataW Unit)}{name:String}{text:pz UInt8}{g:Nat}(hg:Tryz.prog.globalNamed name=some g)(hty:(Tryz.prog.globals[g]?).map (·.type)=some 40)
  (hm : (name, .iface "*errors.errorString" (.ptr (.agg [.lit (.string text)]))) ∈ l)(h : laidMet Tryz.prog l W) :
  ∃a,W.cell? ⟨g,0,none⟩=some (.iface 403 (.pointer (some a))):=by
 obtain ⟨k,m,-,c⟩:=h
 induction l generalizing k with
 | nil=>cases hm
 | cons x r ih=>
  obtain ⟨n,d⟩:=x;obtain ⟨B,t,cs,fuel,p,q,i,o,f,w,y,rfl⟩:=m;rcases Qq6.1 hm with e|hm
  ·cases e;obtain rfl:=Qv6 (hg.symm.m i);obtain rfl:=Qv6 (hty.symm.m o);obtain ⟨z⟩:=cs
   have j:∀u v,z=[.iface u v]->Value.okWide Tryz.prog W .any 0 u v:=λu v e=>by
    subst e;exact (c g 0 (Qz4 _ (Qz4 _ (row0 g)))).2 u v (VT hg f)
   obtain ⟨a,s,rfl,-⟩:=errorString_of_trod Tryz.underlying40 rowE Tryz.underlying403 Tryz.underlying427 rfl rfl Tryz.underlying9 Xe Xf w j;exact ⟨a,VT hg f⟩
  ·exact ih hm q y λb off A=>c b off (Qk7 _ A)
def View.all (W:World):View:=⟨W,λ_=>False,λ_=>False,λ_ h=>h.elim,λ_ h=>h⟩
def H7 {w w':World}(h:ir (λ_=>False) w w')(may:MemPlace->Prop):w.keptBut w' may:=by
 refine ⟨h.os,h.out,λi a=>?_⟩;rw [h.a_ i a (λh=>h)]
 cases w.heap[i]? with
 | none=>rfl
 | some o=>cases o<;>simp
def CJ {f:FuncId}{args:Array un}{W:World}{R:un->Prop}(h:aa Tryz.prog f args (View.all W) λr _=>R r):Calls Tryz.prog f args W λe w'=>∃r,e=.returned r/\R r/\ir (λ_=>False) W w':=
 h.2.s λe w' ⟨r,he,a,b⟩=>⟨r,he,b,a⟩
def laidOut:laidOutB Tryz.prog=true:=by kernel_rfl
def E3 {w w':World}(h:ir (λ_=>False) w w'):Below w.heap.size w w':=⟨h.os,h.tape,h.out,h.size,λk a=>h.a_ k a (λh=>h)⟩
def M7 {P:Program}(hlo:laidOutB P=true){H:Type}{enc:TypeId×un->H}{W W':World}(hb:Below W.heap.size W W')(ts:pz TypeId):∀{vs:pz un} {ds:pz (DataW H)} {ps:pz MemPlace},
  (ts.all λt=>P.readableRec t&&decide (t<P.types.size))=true->DataW.TrodAll enc P W 0 (λ_=>true) true ts vs ds ps->(∀x∈ps,x.block<W.heap.size) ->
   DataW.TrodAll enc P W' 0 (λb=>decide (b<W.heap.size)) true ts vs ds ps:=by
 induction ts with
 | nil=>
  intro vs ds ps _ h _;obtain ⟨rfl,rfl,rfl⟩:=trodAll_nil h;exact trodAll_mk0
 | cons t ts ih=>
  intro vs ds ps c h a;obtain ⟨v,f,d,g,p,q,rfl,rfl,rfl,i,j⟩:=trodAll_cons h;simp only [List.all_cons,Qw7,decide_eq_true_eq] at c;exact trodAll_cons_mk (Below.trod hlo c.1.1 c.1.2 i hb λx e=>a x (Qz4 _ e)) (ih c.2 j λx e=>a x (Qk7 _ e))
set_option maxRecDepth 100000 in
def Uo {H:Type}{enc:TypeId×un->H}{fid:FuncId}{f:Func}{s:ChangeSpec}{W:World}{args:Array un}{ds gs:pz (DataW H)}{before:pz MemPlace}{fresh handsOn:md}
  (hW:DataW.Whole enc Tryz.prog f.params.toList s.vars false W args.toList ds gs before)(hvars:s.vars=[])(hts:(f.params.toList.all λt=>Tryz.prog.readableRec t&&decide (t<Tryz.prog.types.size))=true)
  (hres:f.resultTypes=#[4])(hs:s.fn H (ds++gs)={ results:=[.lit (.bool true)],args:=ds })
  (h:aa Tryz.prog fid args (View.all W) λr _=>r=.bool true):Calls Tryz.prog fid args W λe W'=>∃v,e=.returned v/\s.post enc Tryz.prog f false fresh handsOn false W args v W':=by
 refine (CJ h).s λe W' ⟨r,he,g,a⟩=>?_;subst he g;have b:=hW;obtain ⟨p,q,i,d,rfl,-,-⟩:=hW;rw [hvars] at d;obtain ⟨rfl,rfl⟩:=trodVars_none d;have c:∀x∈p++[],x.block<W.heap.size:=λx a=>b.lt x a;refine ⟨_,rfl,ds,_,p++[],[],p++[],[],b,?_,?_,?_,H7 a _,λh=>nomatch h⟩
 ·rw [hs,hres];exact trodAll_cons_mk (shut_bool Tryz.underlying4 _) trodAll_mk0
 ·rw [hs,Qx3];exact M7 laidOut (E3 a) _ hts i λx a=>c x (by rw [Qx3];exact a)
 ·rw [hs,hvars];rfl
set_option maxRecDepth 100000 in
def IE {H:Type}{enc:TypeId×un->H}{W:World}{p:OA}{n c:Nat}{d:DataW H}{ps:pz MemPlace}
  (h:DataW.Trod enc Tryz.prog W 0 (λ_=>true) true 22 (.slice p n c) d ps):n<=c/\∀i,i<n->∃(a:Addr)(x:Int),ae p (i*1)=some a/\(View.all W).at a (.int .i64 x):=by
 obtain ⟨fuel,k⟩:=h;rcases open_ints Tryz.underlying22 Tryz.underlying3 (show Tryz.prog.cellsOf 3=1 by kernel_rfl) k with ⟨b,-⟩|⟨a,f,g,o,b,_,l,-,m,-,e,-⟩
 ·simp [Value.cells] at b;obtain ⟨rfl,rfl,rfl⟩:=b;exact ⟨Qq2 _,λi j=>absurd j (by omega)⟩
 ·simp [Value.cells] at b;obtain ⟨rfl,rfl,rfl⟩:=b;simp only [if_true] at m;exact ⟨l,λi j=>⟨a.add i,_,by rw [Qk6];rfl,λh=>h,e i (by omega)⟩⟩
end Go.Proofs.YtckenacdnbolaaaGreatDoor
namespace Go.Big
variable{a ds:List Nat}{n:Nat}
def val:List Nat->Nat
 | []=>0
 | d::r=>d+4294967296*val r
def cK (ds:List Nat):Prop:=∀d∈ds,d<4294967296
def cZ:List Nat->List Nat
 | []=>[]
 | d::r=>if cZ r=[]/\d=0 then [] else d::cZ r
def wJ (ds:List Nat):Prop:=cZ ds=ds
def zV:Nat->Nat->List Nat
 | 0,_=>[]
 | f+1,n=>if n=0 then [] else n%4294967296::zV f (n / 4294967296)
def ah (n:Nat):List Nat:=zV n n
@[simp] theorem fZ:val []=0:=rfl
@[simp] theorem bM (d:Nat)(r:List Nat):val (d::r)=d+4294967296*val r:=rfl
theorem cK.nil:cK []:=λ_ h=>nomatch h
theorem cK.cons {d:Nat}{r:pz Nat}:cK (d::r)↔d<4294967296/\cK r:=by simp [cK]
theorem cK.append {b:pz Nat}:cK (a++b)↔cK a/\cK b:=by simp [cK,or_imp,forall_and]
theorem cK.take (h:cK a)(k:Nat):cK (a.take k):=λd b=>h d (Qb6 b)
theorem cK.drop (h:cK a)(k:Nat):cK (a.drop k):=λd b=>h d (Qp3 b)
theorem cK.set (h:cK a)(k x:Nat)(hx:x<4294967296):cK (a.set k x):=λd c=>by
 rcases List.mem_or_eq_of_mem_set c with b|b
 ·exact h d b
 ·exact b▸hx
theorem cK.get (h:cK a){i:Nat}(hi:i<a.length):a[i]<4294967296:=h _ (Qq9 hi)
theorem cK.rep (n:Nat):cK (List.replicate n 0):=λd a=>by rw [Qr2 a];omega
theorem eW (a b:pz Nat):val (a++b)=val a+4294967296^a.length*val b:=by
 induction a with
 | nil=>simp
 | cons d r ih=>simp only [Qc8,bM];grind
theorem h_ (h:cK ds):val ds<4294967296^ds.length:=by
 induction ds with
 | nil=>simp
 | cons d r ih=>
  have a:=cK.cons.1 h;grind [val]
theorem yX (n:Nat):val (List.replicate n 0)=0:=by
 induction n with
 | zero=>rfl
 | succ n ih=>simp [List.replicate_succ,ih]
theorem ay (ds:pz Nat)(i:Nat)(h:i<ds.length:=by omega):val (ds.take (i+1))=val (ds.take i)+4294967296^i*ds[i]:=by
 rw [Qy7 h,eW];simp [Qj3 (Qr3 h)]
theorem ao {ds:pz Nat}{i:Nat}(h:ds.length<=i:=by omega):val (ds.take i)=val ds:=by rw [Qb7 h]
theorem C0 (ds:pz Nat)(i x:Nat)(h:i<ds.length):(ds.set i x).take (i+1)=ds.take i++[x]:=by grind [List.take_succ_eq_append_getElem,List.take_set,List.set_eq_of_length_le]
theorem aS (ds:pz Nat)(i x:Nat)(h:i<ds.length:=by omega):val ((ds.set i x).take (i+1))=val (ds.take i)+4294967296^i*x:=by
 rw [C0 ds i x h,eW];simp [Qj3 (Qr3 h)]
theorem jU (r:pz Nat):cZ (r++[0])=cZ r:=by
 induction r with
 | nil=>simp [cZ]
 | cons d r ih=>simp only [Qc8,cZ,ih]
theorem th (r:pz Nat)(d:Nat)(h:d≠0):cZ (r++[d])=r++[d]:=by
 induction r with
 | nil=>simp [cZ,h]
 | cons x r ih=>simp [cZ,ih]
theorem ON (ds:pz Nat):val (cZ ds)=val ds:=by
 induction ds with
 | nil=>rfl
 | cons d r ih=>
  simp only [cZ];split
  ·rename_i h;rw [bM,←ih,h.1,h.2];rfl
  ·simp [ih]
theorem nu (ds:pz Nat):(cZ ds).length<=ds.length:=by
 induction ds with
 | nil=>simp [cZ]
 | cons d r ih=>simp only [cZ];split<;>simp<;>omega
theorem OL (ds:pz Nat):cZ ds=ds.take (cZ ds).length:=by induction ds<;>grind [cZ]
theorem cK.trim (h:cK ds):cK (cZ ds):=by rw [OL];exact h.take _
theorem I7 (ds:pz Nat):wJ (cZ ds):=by
 unfold wJ
 induction ds with
 | nil=>rfl
 | cons d r ih=>
  rw [cZ];split
  ·rfl
  ·rename_i h;rw [cZ,ih,if_neg h]
theorem wJ.tail {d:Nat}{r:pz Nat}(h:wJ (d::r)):wJ r:=by
 unfold wJ at h ⊢;simp only [cZ] at h;split at h
 ·cases h
 ·injection h
theorem wJ.zero (h:wJ ds)(hv:val ds=0):ds=[]:=by
 induction ds with
 | nil=>rfl
 | cons d r ih=>
  have a:=ih h.tail (by simp at hv;omega);subst a;simp at hv;subst hv;simp [wJ,cZ] at h
theorem tR:∀(f n:Nat),n<=f->val (zV f n)=n/\cK (zV f n)/\wJ (zV f n)
 | 0,n,h=>⟨by simp [zV];omega,cK.nil,rfl⟩
 | f+1,n,h=>by
  simp only [zV];split
  ·subst_vars;exact ⟨rfl,cK.nil,rfl⟩
  ·have ⟨h1,h2,h3⟩:=tR f (n / 4294967296) (by omega);refine ⟨by rw [bM,h1];omega,cK.cons.2 ⟨by omega,h2⟩,?_⟩;unfold wJ at h3 ⊢;rw [cZ,h3,if_neg];rintro ⟨a,b⟩;rw [a] at h1;simp at h1;omega
theorem af (n:Nat):val (ah n)=n:=(tR n n (Qq2 _)).1
theorem aL (n:Nat):cK (ah n):=(tR n n (Qq2 _)).2.1
theorem jE (n:Nat):wJ (ah n):=(tR n n (Qq2 _)).2.2
theorem wJ.ext:∀{a b:pz Nat},cK a->cK b->wJ a->wJ b->val a=val b->a=b
 | [],b,_,_,_,hb,h=>(hb.zero (by rw [←h];rfl)).symm
 | d::r,[],_,_,ha,_,h=>by have:=ha.zero h;cases this
 | d::r,e::s,ha,hb,na,nb,h=>by
  have f:=(cK.cons.1 ha).1;have g:=(cK.cons.1 hb).1;simp only [bM] at h;have:val r=val s:=by omega
  have c:=wJ.ext (cK.cons.1 ha).2 (cK.cons.1 hb).2 na.tail nb.tail this;grind
theorem tU (h:cK ds)(hn:wJ ds):ah (val ds)=ds:=wJ.ext (aL _) h (jE _) hn (af _)
theorem aY (h:cK ds):cZ ds=ah (val ds):=by
 rw [←ON,tU h.trim (I7 _)]
theorem tS {a b:Nat}(h:ah a=ah b):a=b:=by rw [←af a,h,af]
@[simp] theorem D7:ah 0=[]:=rfl
theorem bE:ah n=[]↔n=0:=⟨λh=>tS (by rw [h];rfl),λh=>h▸rfl⟩
theorem wJ.last (h:wJ ds)(hl:0<ds.length):ds[ds.length-1]≠0:=by
 intro e;have a:ds=ds.take (ds.length-1)++[ds[ds.length-1]]:=by grind [List.take_succ_eq_append_getElem,Nat.sub_add_cancel,List.take_length]
 rw [e] at a;have b:cZ ds=ds:=h;rw [a,jU] at b;have:=nu (ds.take (ds.length-1));grind
theorem xd (h:∀hl:0<ds.length,ds[ds.length-1]≠0):wJ ds:=by
 rcases Qy9 ds.length with e|e
 ·rw [Qw5.1 e];rfl
 ·have a:ds=ds.take (ds.length-1)++[ds[ds.length-1]]:=by grind [List.take_succ_eq_append_getElem,Nat.sub_add_cancel,List.take_length]
  have:=th (ds.take (ds.length-1)) _ (h e);rw [←a] at this;exact this
theorem SK (h:wJ ds)(hl:0<ds.length:=by omega):4294967296^(ds.length-1)<=val ds:=by
 have a:ds=ds.take (ds.length-1)++[ds[ds.length-1]]:=by grind [List.take_succ_eq_append_getElem,Nat.sub_add_cancel,List.take_length]
 have b:=h.last hl;rw [a,eW];simp only [bM,fZ];simp only [Qq3,Qq7,Qc2];rw [Qj3 (by omega),Qn8 hl];have:4294967296^(ds.length-1)*1<=4294967296^(ds.length-1)*(ds[ds.length-1]+4294967296*0):=Qz7 _ (by omega);omega
theorem aM {n k:Nat}:(ah n).length<=k↔n<4294967296^k:=by
 constructor
 ·grind [h_,aL,af,Nat.lt_of_lt_of_le,Nat.pow_le_pow_right]
 ·intro h;rcases Qz2 k (ah n).length with a|a
  ·have:=SK (jE n);rw [af] at this;have b:4294967296^k<=4294967296^((ah n).length-1):=Qx2 (by omega) (by omega);omega
  ·exact a
theorem wR {k:Nat}:k<(ah n).length↔4294967296^k<=n:=by
 have:=@aM n k;omega
theorem jg (ds:pz Nat)(i:Nat)(h:i<ds.length):val ds=val (ds.take i)+4294967296^i*(ds[i]+4294967296*val (ds.drop (i+1))):=by
 have a:val ds=val (ds.take i++ds.drop i):=by rw [Qv9]
 grind [eW,List.drop_eq_getElem_cons,bM]
theorem lY {b:pz Nat}{i:Nat}(ha:cK a)(hi:i<a.length)(hj:i<b.length)(hd:a.drop (i+1)=b.drop (i+1))(hl:a[i]<b[i]):val a<val b:=by
 rw [jg a i hi,jg b i hj,hd];have c:=h_ (ha.take i);simp only [Qq7,Qj3 (Qr3 hi)] at c;have d:4294967296^i*(a[i]+4294967296*val (b.drop (i+1))+1)<=4294967296^i*(b[i]+4294967296*val (b.drop (i+1))):=Qz7 _ (by omega);grind
theorem mZ {a b:Nat}(h:(ah a).length<(ah b).length:=by omega):a<b:=by
 have c:=h_ (aL a);have d:=SK (jE b);rw [af] at c d;have e:4294967296^(ah a).length<=4294967296^((ah b).length-1):=Qx2 (by omega) (by omega);omega
def mi (a b:Nat):Int:=if a<b then -1 else if b<a then 1 else 0
theorem aG {a b:Nat}(h:a<=b:=by omega):(ah a).length<=(ah b).length:=by
 rcases Qz2 (ah b).length (ah a).length with c|c
 ·have:=mZ c;omega
 ·exact c
theorem bF (h:cK ds):(ah (val ds)).length<=ds.length:=by rw [←aY h];exact nu ds
theorem TS (h:n<4294967296)(h0:n≠0:=by omega):ah n=[n]:=by
 have:wJ [n]:=by simp [wJ,cZ,h0]
 have:=tU (by simp [cK];exact h) this;simpa using this
end Go.Big
namespace Go.Eng
open Go.Big
open Go.Value renaming int→qvK
variable{ds:List Nat}{p:OA}{c n:Nat}{V:View}
theorem au {x:Int}(h:-9223372036854775808<=x/\x<=9223372036854775807):i64.wrap x=x:=IntWalk.i64_in x h
theorem bj {x:Int}(h:0<=x/\x<=18446744073709551615):u64.wrap x=x:=IntWalk.u64_in x h
theorem uO {x:Int}(h:0<=x/\x<=4294967295):u32.wrap x=x:=IntWalk.u32_in x h
theorem kj (x:Int):u32.wrap x=x%4294967296:=by rw [IntKind.wrap_u32]
theorem xT (x:Int):u64.wrap x=x%18446744073709551616:=by rw [IntKind.wrap_u64]
theorem uH {x:Int}:x.fdiv (2^32)=x / 4294967296:=by rw [Ww8 _ (by decide)];rfl
theorem Sq {x:Int}:x.fdiv (2^63)=x / 9223372036854775808:=by rw [Ww8 _ (by decide)];rfl
theorem Is (a b:Nat)(ha:a<4294967296)(hb:b<4294967296):bW .or .u64 ((a:Int)*4294967296) (b:Int)=(a:Int)*4294967296+b:=by
 have c:((a:Int)*4294967296)=((a*2^32:Nat):Int):=by simp
 rw [bW,c,xT]
 have d:(BitVec.ofInt IntKind.u64.bits ((a*2^32:Nat):Int) ||| BitVec.ofInt IntKind.u64.bits (b:Int)).toNat=a*2^32+b:=by
  show (BitVec.ofInt 64 ((a*2^32:Nat):Int) ||| BitVec.ofInt 64 (b:Int)).toNat=_;rw [Qj4,Qj4,Wz7,Qv0,Qv0,Qy1 (by omega),Qy1 (by omega)];have:=Qt5 (b:=b) (i:=32) (by omega) a;grind [Nat.shiftLeft_eq]
 omega
def aK (ds:List Nat):List Value:=ds.map λ(d:Nat)=>Value.int .u32 (d:Int)
@[simp] theorem u32s_len (ds:List Nat):(aK ds).length=ds.length:=by simp [aK]
theorem bQ (ds:pz Nat)(i x:Nat):(aK ds).set i (qvK .u32 (x:Int))=aK (ds.set i x):=by simp [aK]
theorem dW (n:Nat):List.replicate n (Value.int .u32 0)=aK (List.replicate n 0):=by simp [aK]
theorem iJ {i:Nat}(h:i<ds.length):(aK ds)[i]?=some (qvK .u32 (ds[i]:Int)):=by simp [aK,h]
theorem EP (ds:pz Nat)(k:Nat):aK (ds.take k)=(aK ds).take k:=by simp [aK,Wy3]
theorem OM (ds:pz Nat)(k:Nat):aK (ds.drop k)=(aK ds).drop k:=by simp [aK,Wy4]
theorem xu (a b:pz Nat):aK (a++b)=aK a++aK b:=by simp [aK]
theorem View.Le.sl {V V':ut}(h:V.Le V'){a:OA}{xs:pz un}(hs:V.sl a xs):V'.sl a xs:=
 λi v b=>let ⟨ad,e,ha⟩:=hs i v b;⟨ad,e,h.at ha⟩
structure RD (V:View) (p:OA) (n c:Nat) (ds:List Nat):Prop where
 len:n=ds.length
 cap:n<=c
 sl:V.sl p (aK ds)
 fy:cK ds
 Ik:p.isNone=true->c=0
theorem RD.le {V V':ut}(h:RD V p n c ds)(l:V.Le V'):RD V' p n c ds:=⟨h.len,h.cap,l.sl h.sl,h.fy,h.Ik⟩
theorem RD.nil:RD V none 0 0 []:=⟨rfl,Qq2 _,λi v h=>by simp [aK] at h,cK.nil,λ_=>rfl⟩
theorem RD.take (h:RD V p n c ds){k:Nat}(hk:k<=n):RD V p k c (ds.take k):=by
 have:=h.len;refine ⟨by simp;omega,by have:=h.cap;omega,λi v a=>h.sl i v ?_,h.fy.take k,h.Ik⟩<;>grind [EP]
theorem RD.rd (h:RD V p n c ds){i:Int}{K:Int->Prop}(j:Nat)(hj:i=j)(hn:j<ds.length)
  (hK:K ((ds[j]:Nat):Int)):(p.isSome=true)/\(0<=i/\i<(n:Int))/\∃x:Int,(∃a,ae p (i.toNat*1)=some a/\V.at a (qvK .u32 x))/\K x:=by
 have ⟨b,e,d⟩:=h.sl j _ (iJ hn);have:=h.len;subst hj;refine ⟨by rw [e];rfl,⟨by omega,by omega⟩,_,⟨b.add j,?_,d⟩,hK⟩;rw [e];simp [ae]
theorem dF {b:Nat}{xs:pz un}{ty:TypeId}{m:Nat×Nat}(h:V.a_ b (.cells xs.toArray ty m)){i:Nat}{v:un}(hv:xs[i]?=some v):V.at ⟨b,i,none⟩ v:=by
 refine ⟨h.1,?_⟩;unfold World.cell?;rw [h.2];simpa using hv
theorem add_zero' (b i:Nat):(⟨b,0,none⟩:Addr).add i=⟨b,i,none⟩:=by
 unfold Addr.add;split
 ·rename_i h;simp_all
 ·simp
theorem RD.a_ {b:Nat}{ds:pz Nat}{ty:TypeId}{m:Nat×Nat}(h:V.a_ b (.cells (aK ds).toArray ty m))(hd:cK ds)(hn:n=ds.length)(hc:n<=c):RD V (some ⟨b,0,none⟩) n c ds:=
 ⟨hn,hc,λi v a=>⟨_,rfl,by rw [add_zero'];exact dF h a⟩,hd,λe=>nomatch e⟩
end Go.Eng
namespace Go.Eng
theorem zv (a:Addr)(m n:Nat):(a.add m).add n=a.add (m+n):=by grind [Addr.add]
variable {α:Type} {sz:Nat} {R:View->Value->α->Prop} {V V':View}
structure Row (sz:Nat) (R:View->Value->α->Prop) (V:View) (vs:List Value) (al:List α):Prop where
 at_:∀(i:Nat)(h:i<al.length),∃xs:List Value,xs.length=sz/\R V (.agg xs.toArray) al[i]/\∀j x,xs[j]?=some x->vs[i*sz+j]?=some x
structure bI (sz:Nat) (R:View->Value->α->Prop) (V:View) (p:OA) (n:Nat) (al:List α):Prop where
 len:n=al.length
 at_:∀(i:Nat)(h:i<al.length),∃ad,ae p (i*sz)=some ad/\∃xs:List Value,xs.length=sz/\R V (.agg xs.toArray) al[i]/\∀j x,xs[j]?=some x->V.at (ad.add j) x
theorem Row.nil {vs:pz un}:Row sz R V vs []:=⟨λi h=>absurd h (Qm0 i)⟩
theorem bI.nil {p:OA}:bI sz R V p 0 []:=⟨rfl,λi h=>absurd h (Qm0 i)⟩
theorem Row.le {vs:pz un}{al:pz α}(h:Row sz R V vs al)(m:∀v a,R V v a->R V' v a):Row sz R V' vs al:=
 ⟨λi b=>by have ⟨xs,c,d,e⟩:=h.at_ i b;exact ⟨xs,c,m _ _ d,e⟩⟩
theorem bI.le {p:OA}{n:Nat}{al:pz α}(h:bI sz R V p n al)(l:V.Le V')(m:∀v a,R V v a->R V' v a):bI sz R V' p n al:=
 ⟨h.len,λi b=>by have ⟨c,d,xs,e,f,g⟩:=h.at_ i b;exact ⟨c,d,xs,e,m _ _ f,λj x k=>l.at (g j x k)⟩⟩
theorem Row.jR {vs:pz un}{al:pz α}(h:Row sz R V vs al)(hs:0<sz):al.length*sz<=vs.length:=by
 by_cases a:al.length=0
 ·rw [a];omega
 ·obtain ⟨xs,d,-,b⟩:=h.at_ (al.length-1) (by omega);have c:sz-1<xs.length:=by omega
  have:=(Qx0.1 (b (sz-1) _ (Qq1 c))).1
  have e:al.length*sz=(al.length-1)*sz+sz:=by
   obtain ⟨m,hm⟩:∃m,al.length=m+1:=⟨al.length-1,by omega⟩;grind [Nat.succ_mul]
  omega
theorem Row.snoc {vs:pz un}{al:pz α}(h:Row sz R V vs al){xs sp:pz un}{a:α}(hx:xs.length=sz)(ha:R V (.agg xs.toArray) a)(hs:0<sz) :
  Row sz R V (vs.take (al.length*sz)++xs++sp) (al++[a]):=by
 have n:=h.jR hs;have o:(vs.take (al.length*sz)).length=al.length*sz:=by rw [Qq7];omega
 refine ⟨λi c=>?_⟩;rw [Qq3,Qc2] at c;by_cases e:i=al.length
 ·grind [Nat.add_sub_cancel_left]
 ·have b:i<al.length:=by omega
  have ⟨d,f,g,p⟩:=h.at_ i b;refine ⟨d,f,by rw [Qr4 b];exact g,λj x k=>?_⟩;have l:=(Qx0.1 k).1
  have m:i*sz+j<al.length*sz:=by
   have:(i+1)*sz<=al.length*sz:=Qw0 _ b;rw [Qg9] at this;omega
  grind
theorem bI.hU {bk:Nat}{ty:TypeId}{m:Nat×Nat}{vs:pz un}{al:pz α}(hb:V.a_ bk (.cells vs.toArray ty m))(h:Row sz R V vs al):bI sz R V (some ⟨bk,0,none⟩) al.length al:=by
 refine ⟨rfl,λi a=>?_⟩;have ⟨xs,b,c,d⟩:=h.at_ i a;refine ⟨⟨bk,i*sz,none⟩,by simp [ae,add_zero'],xs,b,c,λj x f=>?_⟩;have e:(⟨bk,i*sz,none⟩:Addr).add j=⟨bk,i*sz+j,none⟩:=by rw [←add_zero',zv,add_zero']
 grind [dF]
theorem bI.bJ {bk c:Nat}{ty:TypeId}{m:Nat×Nat}{vs:pz un}{al:pz α}(hb:vs≠[]->V.a_ bk (.cells vs.toArray ty m))(h:Row sz R V vs al)(hs:0<sz)(hc:al.length<=c:=by omega):bI sz R V (mA bk c) al.length al:=by
 cases al with
 | nil=>exact bI.nil
 | cons a r=>
  have b:vs≠[]:=λe=>by
   have:=h.jR hs;grind [Nat.succ_mul]
  have:mA bk c=some ⟨bk,0,none⟩:=by unfold mA;rw [if_neg];rw [Qw9] at hc;omega
  grind [bI.hU]
end Go.Eng
namespace Go.Proofs.Tryz
open Go.Eng Go.Big
open Go.Value renaming slice→hF,bool→qvQ,tuple→qvZ,int→qvK
variable{V:View}{p q:OA}{c e m n:Nat}{ds xa xb:List Nat}
theorem br (h:RD V p n c ds)(hm:ds.length<=4611686018427387904:=by omega) :
  aa prog 216 #[hF p n c] V λr V'=>∃k,r=hF p k c/\RD V' p k c (cZ ds):=by
 refine Jo V _ ?_;refine ⟨λz V'=>z.1=p/\z.2.2=c/\z.2.1<=ds.length/\cZ (ds.take z.2.1)=cZ ds/\RD V' p z.2.1 c (ds.take z.2.1),λz=>z.2.1,⟨(p,n,c),⟨rfl,rfl,rfl⟩,rfl,rfl,?_⟩,?_⟩
 ·have:=h.len;subst this;simp;exact h
 ·rintro ⟨q,k,i⟩ l m ⟨rfl,rfl,j,e,d⟩;dsimp only at j e d ⊢;refine ⟨rfl,λa=>?_,λa=>?_⟩
  ·have a:0<k:=by simpa using a
   simp (disch:=omega) only [au];have o:(ds.take k).length=k:=by simp;omega
   have f:ds.take k=ds.take (k-1)++[ds[k-1]]:=by rw [←Qy7 (by omega),Qn8 a]
   refine d.rd (k-1) (by omega) (by omega) ⟨λb=>?_,λb=>?_⟩
   ·have b:ds[k-1]=0:=by simpa using b
    refine ⟨⟨by omega,by have:=d.cap;omega⟩,(q,k-1,i),by dsimp only;omega,⟨rfl,by dsimp only;omega,rfl⟩,rfl,rfl,by dsimp only;omega,?_,?_⟩
    ·dsimp only;rw [←e,f,b,jU]
    ·have:=d.take (k:=k-1) (by omega);dsimp only
     rwa [Wk6,Qj3 (by omega)] at this
   ·have b:ds[k-1]≠0:=by simpa using b
    refine λV2 g=>⟨k,rfl,?_⟩;rw [←e,f,th _ _ b,←f];exact d.le g
  ·have a:k=0:=by simpa using a
   subst a;refine λV2 g=>⟨0,rfl,?_⟩;rw [←e];exact d.le g
theorem pI (h:RD V p n c ds)(hm:ds.length<=1099511627776:=by omega) :
  aa prog 253 #[hF p n c] V λr V'=>∃q k c',r=hF q k c'/\RD V' q k c' ds:=by
 have g:=h.len;refine yC V _ ⟨λf m o=>⟨_,_,_,rfl,?_⟩,λf=>⟨aK ds,h.sl,by simp [g],by omega,by omega,by simp,by simp [g],?_,?_⟩⟩
 ·have f:p=none:=by simpa using f
  subst f
  have:ds=[]:=by
   rcases Qy9 ds.length with e|e
   ·exact Qw5.1 e
   ·obtain ⟨s,e,-⟩:=h.sl 0 _ (iJ e);cases e
  subst this;exact RD.nil
 ·intro v a;simp only [aK,Qz0] at a;obtain ⟨d,-,rfl⟩:=a;rfl
 ·intro t J sp c' j u m o b l;refine ⟨_,_,_,rfl,?_⟩;simp only [Qz1,Qc1,Qd3,Qn0] at l j ⊢;exact ⟨g,j,λi v a=>⟨_,rfl,by rw [add_zero'];exact dF l (by rw [Qx1 (by rcases Qz2 i (aK ds).length with e|e;exact e;rw [Qz6 e] at a;cases a)];exact a)⟩,h.fy,λe=>nomatch e⟩
abbrev RN (V:View)(p:OA)(n c:Nat)(x:Nat):Prop:=RD V p n c (ah x)
theorem kJ (h:RD V p n c ds)(hm:ds.length<=1099511627776) :
  aa prog 215 #[hF p n c] V λr V'=>∃q k c',r=hF q k c'/\RN V' q k c' (val ds):=by
 refine Jk V _ λg a=>(br (h.le a)).s ?_;rintro r V2 i ⟨k,rfl,b⟩;refine ⟨_,_,_,rfl,λj d=>(pI (b.le d) (by have:=nu ds;omega)).s ?_⟩;rintro r l m ⟨q,o,c',rfl,e⟩;refine ⟨_,_,_,rfl,λs f=>⟨_,_,_,rfl,?_⟩⟩;unfold RN;rw [←aY h.fy];exact e.le f
theorem Fe (h:RD V p n c ds)(hm:ds.length<=1099511627776) :
  aa prog 145 #[hF p n c] V λr V'=>r=qvQ (decide (ah (val ds)=ds)):=by
 have d:=h.len;refine Dj V _ ⟨λa e f=>?_,λa=>?_⟩
 ·have:ds=[]:=Qw5.1 (by simp at a;omega);subst this;rfl
 ·have a:0<n:=by simp at a;omega
  simp (disch:=omega) only [au];refine h.rd (n-1) (by omega) (by omega) λe f=>?_;congr 1;rw [Qz5];simp only [bne_iff_ne,ne_eq,decide_eq_true_eq];subst d;constructor
  ·intro b;exact tU h.fy (xd λ_=>by simpa using b)
  ·intro he b;have:wJ ds:=by rw [←he];exact jE _
   exact this.last (by omega) (by simpa using b)
theorem fG (u:Int)(h0:0<=u)(h1:u<18446744073709551616:=by omega) :
  aa prog 217 #[qvK .u64 u] V λr V'=>∃q k c',r=hF q k c'/\RN V' q k c' u.toNat:=by
 obtain ⟨u,rfl⟩:=Qw2 h0;refine yj V _ ⟨by omega,λe h f a=>?_⟩;rw [uH,kj,uO (by omega)] at a
 have a:e.a_ f (.cells (aK [u%4294967296,u / 4294967296]).toArray 216 (0,0)):=by
  simpa [aK] using a
 have d:cK [u%4294967296,u / 4294967296]:=by simp [cK];omega
 refine (br (RD.a_ a d (n:=2) (c:=2) rfl (Qq2 _)) (by simp)).s ?_;rintro r V2 i ⟨k,rfl,b⟩;refine ⟨_,_,_,rfl,λ_ j g=>⟨_,_,_,rfl,?_⟩⟩;rw [aY d] at b;have:val [u%4294967296,u / 4294967296]=(u:Int).toNat:=by simp;omega
 rw [this] at b;exact b.le g
theorem DY (ha:RD V p n c xa)(hb:RD V q m e xb)(hm:xa.length<=1099511627776)(hn:xb.length<=1099511627776:=by omega) :
  aa prog 252 #[hF p n c,hF q m e] V λr V'=>r=qvK .i64 (mi (val xa) (val xb)):=by
 have la:=nu xa;have lb:=nu xb;refine Lm V _ λJ w=>(br (ha.le w)).s ?_;rintro r V2 D ⟨n,rfl,g⟩;refine ⟨_,_,_,rfl,λK A=>(br (hb.le (w.m (D.m A)))).s ?_⟩;rintro r L E ⟨m,rfl,j⟩;refine ⟨_,_,_,rfl,?_⟩
 replace g:=g.le (A.m E)
 rw [aY ha.fy] at g la;rw [aY hb.fy] at j lb;generalize val xa=x at *;generalize val xb=y at *;have F:=g.len;have G:=j.len;refine ⟨λh=>⟨λd B C=>?_,λd B C=>?_⟩,λh=>?_⟩
 ·have:=mZ (a:=x) (b:=y) (by simp at d;omega);rw [mi,if_pos this]
 ·have:=mZ (a:=y) (b:=x) (by simp at h d;omega);rw [mi,if_neg (by omega),if_pos this]
 ·have h:n=m:=by simp at h;omega
  subst h;simp (disch:=omega) only [au];refine ⟨λz V'=>-1<=z/\z<n/\(ah x).drop (z+1).toNat=(ah y).drop (z+1).toNat,λz=>(z+1).toNat,⟨_,by (try dsimp only);and_intros<;>trivial,by (try dsimp only);omega,by (try dsimp only);omega,?_⟩,?_⟩
  ·(try dsimp only)
   rw [Qx7 (by omega),Qx7 (by omega)]
  ·rintro i M k ⟨o,s,t⟩;dsimp only at o s t ⊢;refine ⟨by trivial,λd=>?_,λd B C=>?_⟩
   ·have d:0<=i:=by simpa using d
    obtain ⟨i,rfl⟩:=Qw2 d;simp (disch:=omega) only [au];have f:(ah x).drop (i+1)=(ah y).drop (i+1):=t;refine (g.le k).rd i rfl (by omega) ((j.le k).rd i rfl (by omega) ⟨λu H I=>?_,λu=>?_⟩)
    ·have:=lY (aL x) (by omega) (by omega) f (by simpa using u);rw [af,af] at this;rw [mi,if_pos this]
    ·refine (g.le k).rd i rfl (by omega) ((j.le k).rd i rfl (by omega) ⟨λv H I=>?_,λv=>?_⟩)
     ·have:=lY (aL y) (by omega) (by omega) f.symm (by simpa using v);rw [af,af] at this;rw [mi,if_neg (by omega),if_pos this]
     ·refine ⟨_,?_,by (try dsimp only);and_intros<;>trivial,?_,?_,?_⟩
      ·(try dsimp only);omega
      ·(try dsimp only);omega
      ·(try dsimp only);omega
      ·(try dsimp only)
       have:((i:Int)-1+1).toNat=i:=by omega
       rw [this,Qw4 (by omega),Qw4 (l:=ah y) (by omega),f];congr 1;simp at u v;omega
   ·have d:i=-1:=by simp at d;omega
    subst d;have:ah x=ah y:=by simpa using t
    have:=tS this;subst this;simp [mi]
theorem zu {E A B c d x y W:Nat}(h:E+W*c=A+B)(hd:d=c+x+y:=by omega):E+W*(d%4294967296)+W*4294967296*(d / 4294967296)=A+W*x+(B+W*y):=by
 have a:W*(d%4294967296)+W*4294967296*(d / 4294967296)=W*d:=by
  rw [Qb8,←Qb1,Qg4]
 rw [Qn5,a,hd,Qb1,Qb1];omega
theorem Nt (ha:RD V p n c xa)(hb:RD V q m e xb)(hm:xa.length<=1099511627776)(hn:xb.length<=1099511627776) :
  aa prog 297 #[hF p n c,hF q m e] V λr V'=>∃p' n' c',r=hF p' n' c'/\RN V' p' n' c' (val xa+val xb):=by
 have B:=ha.len;have C:=hb.len;refine Ll V _ ⟨λz V'=>∃xs b,RD V' z.1 z.2.1 z.2.2.1 xs/\RD V' z.2.2.2.1 z.2.2.2.2.1 z.2.2.2.2.2 b/\b.length<=xs.length/\xs.length<=1099511627776/\val xs+val b=val xa+val xb,⟨λD=>?_,λD=>?_⟩,?_⟩
 ·exact ⟨(_,_,_,_,_,_),by (try dsimp only);and_intros<;>trivial,xb,xa,hb,ha,by simp at D;omega,hn,by omega⟩
 ·exact ⟨(_,_,_,_,_,_),by (try dsimp only);and_intros<;>trivial,xa,xb,ha,hb,by simp at D;omega,hm,rfl⟩
 ·rintro ⟨p,n,c,q,m,e⟩ O P ⟨xs,b,x,A,Q,hm,h⟩;dsimp only at x A ⊢;rw [←h];clear h ha hb B C;have L:=x.len;have R:=A.len;simp (disch:=omega) only [au,dW];have E:((n:Int)+1).toNat=n+1:=by omega
  rw [E]
  refine ⟨by trivial,by omega,by omega,by omega,λz V'=>0<=z.1/\z.1<=1/\0<=z.2.1/\z.2.1<=n/\∃es:pz Nat,z.2.2=aK es/\es.length=n+1/\cK es /\
   val (es.take z.2.1.toNat)+4294967296^z.2.1.toNat*z.1.toNat=val (xs.take z.2.1.toNat)+val (b.take z.2.1.toNat),λz=>n-z.2.1.toNat,⟨(0,0,aK (List.replicate (n+1) 0)),by (try dsimp only);and_intros<;>trivial,by (try dsimp only);omega,by (try dsimp only);omega,by (try dsimp only);omega,by (try dsimp only);omega,_,rfl,by simp,cK.rep _,by simp⟩,?_⟩
  rintro ⟨f,i,S⟩ V2 K ⟨o,F,s,G,es,rfl,H,t,h⟩;dsimp only at o F s G h ⊢;obtain ⟨i,rfl⟩:=Qw2 s;obtain ⟨f,rfl⟩:=Qw2 o;simp only [Qq0] at h;refine ⟨by trivial,λl=>?_,λl=>?_⟩
  ·have l:i<n:=by simpa using l
   refine (x.le K).rd i rfl (by omega) ?_;have T:=x.fy.get (i:=i) (by omega)
   have next:∀d:Nat,d<8589934592->val (es.take i)+4294967296^i*(d%4294967296)+4294967296^i*4294967296*(d / 4294967296)=val (xs.take (i+1))+val (b.take (i+1)) ->
     ∃a:pz Nat,(aK es).set i (qvK .u32 ((d%4294967296:Nat):Int))=aK a/\a.length=n+1/\cK a /\
     val (a.take (i+1))+4294967296^(i+1)*(d / 4294967296)=val (xs.take (i+1))+val (b.take (i+1)):=by
    intro d U he;refine ⟨es.set i (d%4294967296),bQ _ _ _,by simpa using H,t.set _ _ (by omega),?_⟩;rw [aS _ _ _,Qk8];exact he
   refine ⟨λg=>?_,λg=>?_⟩
   ·have g:i<m:=by simpa using g
    refine (A.le K).rd i rfl (by omega) ?_;have M:=A.fy.get (i:=i) (by omega);simp (disch:=omega) only [bj,au,kj,uH];refine ⟨⟨by omega,by omega⟩,by simp;omega,by omega,(_,_,_),?_,by (try dsimp only);and_intros<;>trivial,?_⟩
    ·(try dsimp only);omega
    ·(try dsimp only)
     have j:((i:Int)+1).toNat=i+1:=by omega
     have ⟨a,u,v,I,J⟩:=next (f+xs[i]+b[i]) (by omega) (by rw [ay _ _,ay _ _];exact zu h rfl);refine ⟨by omega,by omega,by omega,by omega,a,?_,v,I,?_⟩
     ·rw [←u];simp
     ·rw [j,←J];congr 2
   ·have g:m<=i:=by simpa using g
    simp (disch:=omega) only [bj,au,kj,uH];refine ⟨⟨by omega,by omega⟩,by simp;omega,by omega,(_,_,_),?_,by (try dsimp only);and_intros<;>trivial,?_⟩
    ·(try dsimp only);omega
    ·(try dsimp only)
     have j:((i:Int)+1).toNat=i+1:=by omega
     have ⟨a,u,v,I,J⟩:=next (f+xs[i]) (by omega) (by
      rw [ay _ _,ao (ds:=b) (i:=i+1)];have:=zu (y:=0) h (d:=f+xs[i]) rfl
      rwa [ao (ds:=b),Qj7,Qj1] at this)
     refine ⟨by omega,by omega,by omega,by omega,a,?_,v,I,?_⟩
     ·rw [←u];simp
     ·rw [j,←J];congr 2
  ·have l:i=n:=by simp at l;omega
   subst l;simp (disch:=omega) only [uO];refine ⟨⟨by omega,by omega⟩,by simp;omega,λW X Y hb=>?_⟩;have u:(aK es).set (0+((i:Int).toNat)*1) (qvK .u32 (f:Int))=aK (es.set i f):=by rw [←bQ];simp
   rw [u] at hb;have w:=t.set i f (by omega);refine (br (RD.a_ hb w (n:=i+1) (c:=i+1) (by simp;omega) (Qq2 _)) (by simp;omega)).s ?_;rintro r Z l4 ⟨k,rfl,g⟩;refine ⟨_,_,_,rfl,λ_ V5 N=>⟨_,_,_,rfl,?_⟩⟩;rw [aY w] at g
   have v:val (es.set i f)=val xs+val b:=by
    have:=aS es i f;rw [ao (by simp;omega)] at this;rw [this,h,ao,ao]
   rw [v] at g;exact g.le N
theorem SB {E A B x y W:Nat}(h:E+B=A+W*c){v:Int}(hc:c<=1)(hx:x<4294967296)(hy:y<4294967296)(hv:v=((x:Int)-(c+y))%18446744073709551616) :
  0<=v/\v / 9223372036854775808<=1/\0<=v / 9223372036854775808/\E+W*(v%4294967296).toNat+(B+W*y)=A+W*x+W*4294967296*(v / 9223372036854775808).toNat:=by
 rcases Qz2 x (c+y) with d|d
 ·have e:v=18446744073709551616+(x:Int)-(c+y):=by omega
  have a:(v / 9223372036854775808).toNat=1:=by omega
  have b:(v%4294967296).toNat+(c+y)=x+4294967296:=by omega
  refine ⟨by omega,by omega,by omega,?_⟩;rw [a,Qk6];have:=congrArg (W*·) b;simp only [Qb1] at this;omega
 ·have e:v=(x:Int)-(c+y):=by omega
  have a:(v / 9223372036854775808).toNat=0:=by omega
  have b:(v%4294967296).toNat+(c+y)=x:=by omega
  refine ⟨by omega,by omega,by omega,?_⟩;rw [a,Qj7,Qj1];have:=congrArg (W*·) b;simp only [Qb1] at this;omega
theorem Kb {xs ys:pz Nat}(hx:RD V p n c xs)(hy:RD V q m e ys)(hm:xs.length<=1099511627776)(hl:ys.length<=xs.length)(hle:val ys<=val xs) :
  aa prog 305 #[hF p n c,hF q m e] V λr V'=>∃p' n' c',r=hF p' n' c'/\RN V' p' n' c' (val xs-val ys):=by
 have D:=hx.len;have O:=hy.len
 refine Jm V _ ⟨by omega,by omega,by omega,λz V'=>0<=z.1/\z.1<=1/\0<=z.2.1/\z.2.1<=n/\∃es:pz Nat,z.2.2=aK es/\es.length=n/\cK es /\
   val (es.take z.2.1.toNat)+val (ys.take z.2.1.toNat)=val (xs.take z.2.1.toNat)+4294967296^z.2.1.toNat*z.1.toNat,λz=>n-z.2.1.toNat,
   ⟨(0,0,List.replicate n (qvK .u32 0)),by (try dsimp only);and_intros<;>trivial,by (try dsimp only);omega,by (try dsimp only);omega,by (try dsimp only);omega,by (try dsimp only);omega,List.replicate n 0,dW n,by simp,cK.rep _,by simp⟩,?_⟩
 rintro ⟨j,i,P⟩ V2 B ⟨l,u,o,w,es,rfl,d,a,s⟩;dsimp only at l u o w s ⊢;obtain ⟨i,rfl⟩:=Qw2 o;obtain ⟨j,rfl⟩:=Qw2 l;simp only [Qq0] at s;refine ⟨by trivial,λf=>?_,λf=>?_⟩
 ·have f:i<n:=by simpa using f
  refine (hx.le B).rd i rfl (by omega) ?_;have E:=hx.fy.get (i:=i) (by omega);refine ⟨λz V'=>∃y:Nat,z=j+y/\y<4294967296/\val (ys.take (i+1))=val (ys.take i)+4294967296^i*y,⟨λb=>?_,λb=>?_⟩,?_⟩
  ·have b:i<m:=by simpa using b
   refine (hy.le B).rd i rfl (by omega) ?_;have g:=hy.fy.get (i:=i) (by omega);simp (disch:=omega) only [bj];exact ⟨_,by (try dsimp only);and_intros<;>trivial,ys[i],rfl,g,ay _ _⟩
  ·have b:m<=i:=by simpa using b
   exact ⟨_,by (try dsimp only);and_intros<;>trivial,0,by simp,by omega,by rw [ao,ao];simp⟩
  ·rintro t F G ⟨y,rfl,g,x⟩;refine ⟨by trivial,⟨by omega,by simpa using f⟩,by simp;omega,by omega,?_⟩;simp (disch:=omega) only [bj,au,xT,kj,Sq];obtain ⟨v,C⟩:∃v:Int,v=((xs[i]:Int)-((j:Int)+(y:Int)))%18446744073709551616:=⟨_,rfl⟩;obtain ⟨Q,H,I,J⟩:=SB s (by omega) E g C;rw [←C];refine ⟨(_,_,_),?_,by (try dsimp only);and_intros<;>trivial,?_⟩
   ·(try dsimp only);omega
   ·(try dsimp only)
    have A:((i:Int)+1).toNat=i+1:=by omega
    refine ⟨I,H,by omega,by omega,es.set i (v%4294967296).toNat,?_,by simpa using d,a.set _ _ (by omega),?_⟩
    ·rw [←bQ];congr 2
     ·simp
     ·omega
    ·rw [A,aS _ _ _,x,J,ay _ _,Qk8]
 ·have f:i=n:=by simp at f;omega
  subst f;intro F G R K;refine (br (RD.a_ K a (n:=i) (c:=i) d.symm (Qq2 _))).s ?_;rintro r S T ⟨k,rfl,b⟩;refine ⟨_,_,_,rfl,λ_ U L=>⟨_,_,_,rfl,?_⟩⟩;rw [aY a] at b;rw [ao,ao,ao] at s;have M:=h_ a;rw [d] at M
  have N:j=0:=by
   rcases Qy9 j with h|h
   ·exact h
   ·have:4294967296^i*1<=4294967296^i*j:=Qz7 _ h;omega
  subst N;rw [show val es=val xs-val ys from by omega] at b;exact b.le L
theorem iB {a b:Nat}:mi a b<0↔a<b:=by
 unfold mi;split
 ·simp;omega
 ·split<;>simp<;>omega
theorem ko {a b:Nat}:mi a b=0↔a=b:=by
 unfold mi;split
 ·simp;omega
 ·split
  ·simp;omega
  ·simp;omega
theorem D1 (ha:RD V p n c xa)(hb:RD V q m e xb)(hm:xa.length<=1099511627776)(hn:xb.length<=1099511627776) :
  aa prog 298 #[hF p n c,hF q m e] V λr V'=>∃p' n' c',r=qvZ #[hF p' n' c',qvQ (decide (val xb<=val xa))]/\RN V' p' n' c' (val xa-val xb):=by
 refine Lr V _ λu b=>(DY (ha.le b) (hb.le b) hm hn).s ?_;rintro r V2 f rfl;refine ⟨_,rfl,λa l d=>?_,λa l d=>?_⟩
 ·have a:val xa<val xb:=by simpa [iB] using a
  rw [Nat.sub_eq_zero_of_le (by omega),decide_eq_false (by omega)];exact ⟨_,_,_,rfl,RD.nil⟩
 ·have a:val xb<=val xa:=by simpa [←Wq7,iB] using a
  rw [decide_eq_true a];refine (br ((ha.le b).le (f.m d))).s ?_;rintro r v o ⟨w,rfl,g⟩;refine ⟨_,_,_,rfl,λx h=>(br ((hb.le b).le (f.m (d.m (o.m h))))).s ?_⟩;rintro r y s ⟨z,rfl,i⟩;rw [aY ha.fy] at g;rw [aY hb.fy] at i;have:=bF ha.fy;refine ⟨_,_,_,rfl,λA j=>(Kb (g.le (h.m (s.m j))) (i.le j) (by omega) (aG a) (by rw [af,af];exact a)).s ?_⟩;rintro r B C ⟨p',n',c',rfl,k⟩;rw [af,af] at k;exact ⟨_,_,_,rfl,λD t=>⟨_,_,_,rfl,k.le t⟩⟩
end Go.Proofs.Tryz
namespace Go.Proofs.Tryz
open Go.Eng Go.Shelf
def vi {k : Nat}{f B : Func}(h : prog.funcs[k]? = some f)(hn : (f.name == "runtime.NumGoroutine") = false := by kernel_rfl)(e : f = { B with name := f.name } := by kernel_rfl) : Bears prog k B := ⟨_, hn, h.m (congrArg some e)⟩
def Nj {k:Nat}{f B:Func}(h:prog.funcs[k]?=some f)(e:f=B:=by kernel_rfl):prog.funcs[k]?=some B:=h.m (congrArg some e)
abbrev Yn:Ren:=⟨λ|6=>173|15=>129|14=>230|28=>193|29=>194|20=>259|21=>260|22=>261|23=>262|24=>263|25=>264|26=>265|27=>266|46=>291|47=>239|48=>240|49=>292|50=>293|57=>303|n=>n,λ|22=>218|24=>92|25=>286|3=>3|39=>225|0=>0|53=>216|55=>210|4=>4|46=>298|45=>297|50=>302|5=>5|9=>9|66=>347|70=>351|76=>379|77=>380|n=>n,λn=>n⟩
def EH:SlLaysF0.n6 prog Yn:=
 ⟨by kernel_rfl,vi func173,vi func230,Nj func129,vi func259,vi func260,vi func261,vi func262,vi func263,vi func264,vi func265,vi func266,Nj func193,Nj func194,vi func291,Nj func239,Nj func240,vi func292,vi func293,vi func303,underlying0,isAgg0,sizeOf0,zeroValue0,underlying3,isAgg3,sizeOf3,zeroValue3,underlying4,isAgg4,sizeOf4,zeroValue4,underlying5,isAgg5,sizeOf5,zeroValue5,underlying9,isAgg9,sizeOf9,zeroValue9,underlying218,isAgg218,sizeOf218,zeroValue218,underlying286,isAgg286,sizeOf286,zeroValue286,underlying225,isAgg225,sizeOf225,zeroValue225,underlying297,isAgg297,sizeOf297,zeroValue297,underlying298,isAgg298,sizeOf298,zeroValue298,underlying302,isAgg302,sizeOf302,zeroValue302,underlying216,isAgg216,sizeOf216,zeroValue216,underlying210,isAgg210,sizeOf210,zeroValue210,underlying347,isAgg347,sizeOf347,zeroValue347,underlying351,isAgg351,sizeOf351,zeroValue351,underlying379,isAgg379,sizeOf379,zeroValue379,underlying380,isAgg380,sizeOf380,zeroValue380⟩
def aggL:∀w,(isAgg (Yn.t 24)).run prog w=.ok true w:=isAgg92
def sizL:∀w,(Go.sizeOf (Yn.t 24)).run prog w=.ok 9 w:=sizeOf92
abbrev Ym:Ren:=⟨λ|6=>223|15=>129|14=>258|28=>193|29=>194|20=>283|21=>284|22=>285|23=>286|24=>287|25=>288|26=>289|27=>290|46=>300|47=>239|48=>240|49=>301|50=>302|57=>306|n=>n,λ|22=>335|24=>338|25=>340|3=>3|39=>225|0=>0|53=>216|55=>210|4=>4|46=>298|45=>297|50=>302|5=>5|9=>9|66=>347|70=>351|76=>379|77=>380|n=>n,λn=>n⟩
def EG:SlLaysF0.n6 prog Ym:=
 ⟨by kernel_rfl,vi func223,vi func258,Nj func129,vi func283,vi func284,vi func285,vi func286,vi func287,vi func288,vi func289,vi func290,Nj func193,Nj func194,vi func300,Nj func239,Nj func240,vi func301,vi func302,vi func306,underlying0,isAgg0,sizeOf0,zeroValue0,underlying3,isAgg3,sizeOf3,zeroValue3,underlying4,isAgg4,sizeOf4,zeroValue4,underlying5,isAgg5,sizeOf5,zeroValue5,underlying9,isAgg9,sizeOf9,zeroValue9,underlying335,isAgg335,sizeOf335,zeroValue335,underlying340,isAgg340,sizeOf340,zeroValue340,underlying225,isAgg225,sizeOf225,zeroValue225,underlying297,isAgg297,sizeOf297,zeroValue297,underlying298,isAgg298,sizeOf298,zeroValue298,underlying302,isAgg302,sizeOf302,zeroValue302,underlying216,isAgg216,sizeOf216,zeroValue216,underlying210,isAgg210,sizeOf210,zeroValue210,underlying347,isAgg347,sizeOf347,zeroValue347,underlying351,isAgg351,sizeOf351,zeroValue351,underlying379,isAgg379,sizeOf379,zeroValue379,underlying380,isAgg380,sizeOf380,zeroValue380⟩
def aggC:∀w,(isAgg (Ym.t 24)).run prog w=.ok true w:=isAgg338
def sizC:∀w,(Go.sizeOf (Ym.t 24)).run prog w=.ok 5 w:=sizeOf338
abbrev QL:Ren:=⟨λ|133=>226|128=>193|n=>n,λ|51=>216|3=>3|4=>4|46=>225|5=>5|9=>9|n=>n,λn=>n⟩
def Ig:Lays.n133 prog QL:=
 ⟨by kernel_rfl,Nj func193,Nj func226,underlying3,isAgg3,sizeOf3,zeroValue3,underlying4,isAgg4,sizeOf4,zeroValue4,underlying5,isAgg5,sizeOf5,zeroValue5,underlying9,isAgg9,sizeOf9,zeroValue9,underlying225,isAgg225,sizeOf225,zeroValue225,underlying216,isAgg216,sizeOf216,zeroValue216⟩
abbrev Oa:Ren:=⟨λ|264=>295|n=>n,λ|53=>210|46=>225|n=>n,λn=>n⟩
def Ev:Lays.n264 prog Oa:=
 ⟨by kernel_rfl,Nj func295,underlying225,isAgg225,sizeOf225,zeroValue225,underlying210,isAgg210,sizeOf210,zeroValue210⟩
end Go.Proofs.Tryz
namespace Go.Big
def dN (n:Nat):Nat:=if n=0 then 0 else n.log2+1
def uk (n:Nat):n<2^dN n:=by
 unfold dN;split
 ·subst_vars;decide
 ·exact Nat.lt_log2_self
def yO {n:Nat}(h:n≠0):2^(dN n-1)<=n:=by
 unfold dN;rw [if_neg h];exact Nat.log2_self_le h
def G9 {n b:Nat}(h0:n<2^b)(h1:b=0\/2^(b-1)<=n):dN n=b:=by
 rcases h1 with h1|h1
 ·subst h1;have:n=0:=by simpa using h0
  subst this;rfl
 ·have a:n≠0:=by have:=Qk4 (b-1);omega
  have c:=uk n;have d:=yO a;have e:¬dN n<b:=λh=>by have:=Qx2 (n:=2) (by omega) (show dN n<=b-1 by omega);omega
  have f:¬b<dN n:=λh=>by have:=Qx2 (n:=2) (by omega) (show b<=dN n-1 by omega);omega
  omega
def lJ {n b:Nat}:dN n<=b↔n<2^b:=by
 constructor
 ·intro h;exact Qx5 (uk n) (Qx2 (by omega) h)
 ·intro h;rcases Qz2 b (dN n) with a|a
  ·have c:n≠0:=by intro e;subst e;simp [dN] at a
   have:=yO c;have:=Qx2 (n:=2) (by omega) (show b<=dN n-1 by omega);omega
  ·exact a
end Go.Big
namespace Go.Proofs.Tryz
open Go.Eng Go.Big Go.Proofs Go.Shelf
open Go.Value renaming tuple→qvZ,int→qvK
variable{V:View}
theorem kN (a k:Nat):((a:Nat):Int).fdiv (2^k)=((a / 2^k:Nat):Int):=by grind
theorem DJ {f:FuncId}{args:Array un}{V:ut}{v:un}(hc:gF prog f)(h:Calls prog f args V.w λe w'=>e=.returned v/\w'=V.w):aa prog f args V λr _=>r=v:=
 ⟨hc,h.s λe w' ⟨a,b⟩=>by subst b;exact ⟨v,a,ir.refl _ _,rfl⟩⟩
theorem lt_bl:∀x:Nat,x<2^64->x<2^Lib.bitLen x:=by
 intro x
 induction x using Nat.strongRecOn<;>grind [Lib.bitLen_half]
theorem ZP {x:Nat}(h:x<2^64:=by omega):Lib.bitLen x=dN x:=
 Nat.le_antisymm (Lib.bitLen_le x _ (lJ.2 h) (uk x)) (lJ.2 (lt_bl x h))
theorem iR (x:Nat)(hx:x<4294967296) :
  aa prog 226 #[qvK .u32 (x:Int)] V λr V'=>r=qvK .i64 (32-(dN x:Int)):=by
 have h:=DJ (V:=V) ⟨_,Ig.f133,rfl,by kernel_rfl⟩ (Any.bits_LeadingZeros32 Ig (x:Int) V.w (by omega) (by omega));rw [Qq0,ZP] at h;exact h
theorem Zz (a:Nat)(ha:a<18446744073709551616:=by omega):bW .and .u64 (a:Int) 4294967295=((a%4294967296:Nat):Int):=by
 rw [bW,xT]
 have b:(BitVec.ofInt IntKind.u64.bits ((a:Nat):Int) &&& BitVec.ofInt IntKind.u64.bits 4294967295).toNat=a%4294967296:=by
  show (BitVec.ofInt 64 ((a:Nat):Int) &&& BitVec.ofInt 64 ((4294967295:Nat):Int)).toNat=_;rw [Qj4,Qj4,BitVec.toNat_and,Qv0,Qv0,Qy1 (by omega),Qy1 (by omega)];have:=Nat.and_two_pow_sub_one_eq_mod a 32;exact this
 omega
theorem Ty (x y:Nat)(hx:x<18446744073709551616)(hy:y<18446744073709551616:=by omega) :
  aa prog 295 #[qvK .u64 (x:Int),qvK .u64 (y:Int)] V λr V'=>r=qvZ #[qvK .u64 ((x*y / 18446744073709551616:Nat):Int),qvK .u64 ((x*y%18446744073709551616:Nat):Int)]:=
 DJ (V:=V) ⟨_,Ev.f264,rfl,by kernel_rfl⟩ (Any.bits_Mul64 Ev x y hx hy V.w)
theorem Tw (x y c:Nat)(hx:x<4294967296)(hy:y<4294967296)(hc:c<4294967296:=by omega) :
  aa prog 250 #[qvK .u32 (x:Int),qvK .u32 (y:Int),qvK .u32 (c:Int)] V λr V'=>r=qvZ #[qvK .u32 (((x+y+c)%4294967296:Nat):Int),qvK .u32 (((x+y+c) / 4294967296:Nat):Int)]:=by
 refine tu V _ ⟨by omega,λd e=>?_⟩;simp (disch:=omega) only [bj,kj,uH];have a:((x:Int)+y+c)%4294967296=(((x+y+c)%4294967296:Nat):Int):=by omega
 have b:((x:Int)+y+c) / 4294967296%4294967296=(((x+y+c) / 4294967296:Nat):Int):=by omega
 rw [a,b]
end Go.Proofs.Tryz
namespace Go.Proofs.Tryz
open Go.Eng Go.Big
open Go.Value renaming slice→hF,bool→qvQ,tuple→qvZ,int→qvK
variable{V:View}{p:OA}{c n r:Nat}{ds:List Nat}
theorem Rz (a b:Nat)(ha:a<4294967296)(hb:b<4294967296):bW .or .u64 (b:Int) ((a:Int)*4294967296)=(b:Int)+(a:Int)*4294967296:=by
 have h:bW .or .u64 (b:Int) ((a:Int)*4294967296)=bW .or .u64 ((a:Int)*4294967296) (b:Int):=by
  simp only [bW,BitVec.or_comm]
 rw [h,Is a b ha hb];omega
theorem or64z (b:Nat)(hb:b<4294967296):bW .or .u64 0 (b:Int)=b:=by
 have:=Is 0 b (by omega) hb;simpa using this
theorem nP (h:RD V p n c ds)(hm:ds.length<=1099511627776:=by omega) :
  aa prog 213 #[hF p n c] V λr V'=>r=qvZ #[qvK .u64 ((if val ds<18446744073709551616 then val ds else 0:Nat):Int),qvQ (decide (val ds<18446744073709551616))]:=by
 refine Jl V _ λy q=>(br (h.le q)).s ?_;rintro r V2 A ⟨n,rfl,e⟩;rw [aY h.fy] at e;generalize val ds=x at *;have B:=e.len;have C:(ah x).length<=2↔x<18446744073709551616:=aM (k:=2);refine ⟨_,_,_,rfl,λa D E=>?_,λa=>?_⟩
 ·have a:¬x<18446744073709551616:=by simp at a;omega
  rw [if_neg a,decide_eq_false a];rfl
 ·have m:x<18446744073709551616:=by simp at a;omega
  rw [if_pos m,decide_eq_true m];have F:n<=2:=by omega
  refine ⟨λz V'=>0<=z.2/\z.2<=n/\z.1=(val ((ah x).take z.2.toNat):Int),λz=>n-z.2.toNat,⟨(0,0),by (try dsimp only);and_intros<;>trivial,by (try dsimp only);omega,by (try dsimp only);omega,by simp⟩,?_⟩;rintro ⟨u,i⟩ G s ⟨d,f,hu⟩;dsimp only at d f hu ⊢;subst hu;obtain ⟨i,rfl⟩:=Qw2 d;simp only [Qq0];refine ⟨by trivial,λb=>?_,λb H I=>?_⟩
  ·have b:i<n:=by simpa using b
   refine (e.le s).rd i rfl (by omega) ?_;have o:=(aL x).get (i:=i) (by omega);simp (disch:=omega) only [au];refine ⟨by omega,(_,_),?_,by (try dsimp only);and_intros<;>trivial,?_⟩
   ·(try dsimp only);omega
   ·(try dsimp only)
    refine ⟨by omega,by omega,?_⟩;have g:((i:Int)+1).toNat=i+1:=by omega
    rw [g,ay _ _];have t:i=0\/i=1:=by omega
    rcases t with rfl|rfl
    ·simp (disch:=omega) only [bj];have j:(min ((32:Int)*((0:Nat):Int)).toNat IntKind.u64.bits)=0:=by decide
     rw [j];simp (disch:=omega) only [bj,Int.pow_zero,Int.mul_one,Qd3,fZ,Nat.pow_zero,Qc9,Qz1];exact or64z _ o
    ·have j:(min ((32:Int)*((1:Nat):Int)).toNat IntKind.u64.bits)=32:=by decide
     have a:0<(ah x).length:=by omega
     have l:=(aL x).get (i:=0) a;have v:(ah x).take 1=[(ah x)[0]]:=by rw [Qy7 a];rfl
     have w:((2:Int)^32)=4294967296:=by decide
     rw [j,v,w];simp (disch:=omega) only [bj];simp only [bM,fZ,Qj7,Qj1];rw [Rz _ _ o l];omega
  ·have b:i=n:=by simp at b;omega
   subst b;rw [ao,af]
theorem kI (h:RD V p n c ds)(hm:ds.length<=1099511627776) :
  aa prog 209 #[hF p n c] V λr V'=>r=qvK .i64 (dN (val ds):Int):=by
 have k:=bF h.fy;refine Jj V _ λt l=>(br (h.le l)).s ?_;rintro r V2 u ⟨n,rfl,g⟩;rw [aY h.fy] at g;generalize val ds=x at *;have m:=g.len;refine ⟨_,_,_,rfl,λf v w=>?_,λf=>?_⟩
 ·have:ah x=[]:=Qw5.1 (by simp at f;omega);have:=bE.1 this;subst this;rfl
 ·have f:0<n:=by simp at f;omega
  simp (disch:=omega) only [au];refine g.rd (n-1) (by omega) (by omega) λy z=>(iR _ ((aL x).get (by omega))).s ?_;rintro r A B rfl;refine ⟨_,rfl,λC D=>?_⟩;have E:=(aL x).get (i:=n-1) (by omega)
  have a:(ah x)[n-1]≠0:=by
   have:=(jE x).last (by omega);simpa [m] using this
  have F:dN (ah x)[n-1]<=32:=lJ.2 (by omega);simp (disch:=omega) only [au]
  have key:dN x=32*(n-1)+dN (ah x)[n-1]:=by
   have e:=jg (ah x) (n-1) (by omega);rw [af,Qx7 (by omega)] at e;simp only [fZ,Qj7,Qj1] at e;have b:=h_ ((aL x).take (n-1));rw [Qq7,Qj3 (by omega)] at b;have j:(4294967296:Nat)^(n-1)=2^(32*(n-1)):=by rw [Ww0]
   rw [j] at e b;generalize (ah x)[n-1]=d at *;have o:=uk d;have q:=yO a;have s:0<dN d:=by unfold dN;rw [if_neg a];omega
   refine G9 ?_ (.inr ?_)
   ·rw [Qz8];have:2^(32*(n-1))*(d+1)<=2^(32*(n-1))*2^dN d:=Qz7 _ o;rw [Qb1,Qk6] at this;omega
   ·rw [show 32*(n-1)+dN d-1=32*(n-1)+(dN d-1) from by omega,Qz8];have:2^(32*(n-1))*2^(dN d-1)<=2^(32*(n-1))*d:=Qz7 _ q;omega
  rw [key];congr 1;omega
theorem Ij {E S t x y e Y B D:Nat}(h:E+B*D*c=S+B*x*Y)(ht:t=c+x*y+e) :
  E+B*D*(t%4294967296)+B*D*4294967296*(t / 4294967296)=S+B*D*e+B*x*(Y+D*y):=by
 have a:B*D*(t%4294967296)+B*D*4294967296*(t / 4294967296)=B*D*t:=by
  rw [Qb8 (B*D),←Qb1,Qg4]
 rw [Qn5,a,ht];grind
theorem iV {q:OA}{m e:Nat}{xa xb:pz Nat}(ha:RD V p n c xa)(hb:RD V q m e xb)(hm:xa.length+xb.length<=1099511627776:=by omega) :
  aa prog 149 #[hF p n c,hF q m e] V λr V'=>∃p' n' c',r=hF p' n' c'/\RN V' p' n' c' (val xa*val xb):=by
 have la:=bF ha.fy;have lb:=bF hb.fy;refine Lo V _ λV1 O=>(br (ha.le O)).s ?_;rintro r V2 U ⟨n,rfl,o⟩;rw [aY ha.fy] at o;refine ⟨_,_,_,rfl,λV3 P=>(br (hb.le (O.m (U.m P)))).s ?_⟩;rintro r V4 W ⟨m,rfl,E⟩;rw [aY hb.fy] at E
 replace o:=o.le (P.m W)
 have X:=o.len;have Ep:=E.len;have u:val xa=val (ah (val xa)):=(af _).symm;have v:val xb=val (ah (val xb)):=(af _).symm;rw [u,v];clear u v;generalize ah (val xa)=xs at *;generalize ah (val xb)=ys at *;refine ⟨_,_,_,rfl,?_⟩;simp (disch:=omega) only [au,dW];have G:((n:Int)+m).toNat=n+m:=by omega
 rw [G]
 refine ⟨by omega,by omega,by omega,λz V'=>0<=z.1/\z.1<=n/\∃es:pz Nat,z.2=aK es/\es.length=n+m/\cK es /\
  val (es.take (z.1.toNat+m))=val (xs.take z.1.toNat)*val ys,λz=>n-z.1.toNat,⟨(0,aK (List.replicate (n+m) 0)),by (try dsimp only);and_intros<;>trivial,by (try dsimp only);omega,by (try dsimp only);omega,_,rfl,by simp,cK.rep _,by simp [yX,Qp9]⟩,?_⟩
 rintro ⟨i,Y⟩ V5 Q ⟨w,H,es,rfl,I,g,y⟩;dsimp only at w H y ⊢;obtain ⟨i,rfl⟩:=Qw2 w;simp only [Qq0] at y;refine ⟨by trivial,λs=>?_,λs=>?_⟩
 ·have s:i<n:=by simpa using s
  refine (o.le Q).rd i rfl (by omega) ?_;have Cl:=o.fy.get (i:=i) (by omega)
  refine ⟨λz V'=>0<=z.1/\z.1<=4294967295/\0<=z.2.1/\z.2.1<=m/\∃a:pz Nat,z.2.2=aK a/\a.length=n+m/\cK a/\a.drop (i+z.2.1.toNat)=es.drop (i+z.2.1.toNat) /\
   val (a.take (i+z.2.1.toNat))+4294967296^(i+z.2.1.toNat)*z.1.toNat=val (es.take (i+z.2.1.toNat))+4294967296^i*xs[i]*val (ys.take z.2.1.toNat),λz=>m-z.2.1.toNat,
   ⟨(0,0,aK es),by (try dsimp only);and_intros<;>trivial,by (try dsimp only);omega,by (try dsimp only);omega,by (try dsimp only);omega,by (try dsimp only);omega,es,rfl,I,g,rfl,by simp⟩,?_⟩
  rintro ⟨F,k,Y⟩ Z R ⟨A,J,B,K,a,rfl,C,h,f,hw⟩;dsimp only at A J B K f hw ⊢;obtain ⟨k,rfl⟩:=Qw2 B;obtain ⟨F,rfl⟩:=Qw2 A;simp only [Qq0] at f hw;refine ⟨by trivial,λd=>?_,λd=>?_⟩
  ·have d:k<m:=by simpa using d
   refine (E.le (Q.m R)).rd k rfl (by omega) ?_;have a0:=E.fy.get (i:=k) (by omega);have S:=h.get (i:=i+k) (by omega)
   have L:a[i+k]'(by omega)=es[i+k]'(by omega):=by
    have T:a[i+k]?=es[i+k]?:=by
     have:=congrArg (λl=>l[0]?) f;simpa [Qn7] using this
    rw [Qq1 (by omega),Qq1 (by omega)] at T;exact Qv6 T
   simp (disch:=omega) only [au];have j:((i:Int)+k).toNat=i+k:=by omega
   rw [j];refine ⟨⟨by omega,by omega⟩,((a[i+k]'(by omega):Nat):Int),by rw [Qz1,Qk6];exact iJ (by omega),⟨by omega,by omega⟩,by simp;omega,by omega,?_⟩;have a1:xs[i]*ys[k]<=4294967295*4294967295:=Qf8 (by omega) (by omega);have Ya:(xs[i]:Int)*(ys[k]:Int)=((xs[i]*ys[k]:Nat):Int):=by simp
   obtain ⟨t,ht⟩:∃t:Nat,t=F+xs[i]*ys[k]+a[i+k]'(by omega):=⟨_,rfl⟩;rw [Qz8] at hw;have b:=Ij hw ht
   have e1:u64.wrap ((F:Int)+u64.wrap (u64.wrap (u64.wrap (xs[i]:Int)*u64.wrap (ys[k]:Int))+u64.wrap ((a[i+k]'(by omega):Nat):Int)))=(t:Int):=by
    clear b;generalize xs[i]*ys[k]=pq at *;rw [bj (x:=(xs[i]:Int)) (by omega),bj (x:=(ys[k]:Int)) (by omega),Ya,bj (x:=((pq:Nat):Int)) (by omega)];simp (disch:=omega) only [bj];omega
   rw [e1,kj,uH];refine ⟨(_,_,_),?_,by (try dsimp only);and_intros<;>trivial,?_⟩
   ·(try dsimp only);omega
   ·(try dsimp only)
    have D:((k:Int)+1).toNat=k+1:=by omega
    refine ⟨by omega,by omega,by omega,by omega,a.set (i+k) (t%4294967296),?_,by simpa using C,h.set _ _ (by omega),?_,?_⟩
    ·rw [←bQ];simp
    ·rw [D,Qb2 (by omega)];have:=congrArg (List.drop 1) f;simpa [Qh5,Wx0,Qn5,Nat.add_left_comm] using this
    ·rw [D,show i+(k+1)=i+k+1 from by omega,aS _ _ _,ay es (i+k),ay ys k,←L,Qk8];have e2:((t:Int) / 4294967296).toNat=t / 4294967296:=by omega
     rw [e2,Qz8,b]
  ·have d:k=m:=by simp at d;omega
   subst d;simp (disch:=omega) only [au];have j:((i:Int)+k).toNat=i+k:=by omega
   rw [j];refine ⟨⟨by omega,by omega⟩,by simp;omega,(_,_),?_,by (try dsimp only);and_intros<;>trivial,?_⟩
   ·(try dsimp only);omega
   ·(try dsimp only)
    have M:((i:Int)+1).toNat=i+1:=by omega
    refine ⟨by omega,by omega,a.set (i+k) F,?_,by simpa using C,h.set _ _ (by omega),?_⟩
    ·rw [←bQ,uO (by omega)];simp
    ·rw [M,show i+1+k=i+k+1 from by omega,aS _ _ _,hw,y,ay xs i,ao (ds:=ys)];grind
 ·have s:i=n:=by simp at s;omega
  subst s;intro Z R bk N;refine (br (RD.a_ N g (n:=i+m) (c:=i+m) (by omega) (Qq2 _))).s ?_;rintro r V7 l7 ⟨k,rfl,d⟩;refine ⟨_,_,_,rfl,λ_ V8 l8=>⟨_,_,_,rfl,?_⟩⟩;rw [aY g] at d;rw [ao,ao] at y;rw [y] at d;exact d.le l8
theorem Bi {x A d q rest B W:Nat}(hA:A=d*B+rest)(h:d*q+r=rest*W+x):x+W*A=d*(q+W*B)+r:=by
 subst hA;grind
theorem Hm {xs:pz Nat}(hx:RD V p n c xs)(hm:xs.length<=1099511627776)(d:Nat)(hd0:d≠0)(hd:d<4294967296) :
  aa prog 254 #[hF p n c,qvK .u32 (d:Int)] V λr V'=>∃p' n' c',r=qvZ #[hF p' n' c',qvK .u32 ((val xs%d:Nat):Int)]/\RN V' p' n' c' (val xs / d):=by
 have w:=hx.len;refine Gt V _ ⟨by omega,by omega,by omega,?_⟩;simp (disch:=omega) only [au,bj,Qq0,dW]
 refine ⟨λz V'=>0<=z.1/\z.1<d/\-1<=z.2.1/\z.2.1<n/\∃es:pz Nat,z.2.2=aK es/\es.length=n/\cK es /\
   val (xs.drop (z.2.1+1).toNat)=d*val (es.drop (z.2.1+1).toNat)+z.1.toNat,λz=>(z.2.1+1).toNat,
   ⟨(0,(n:Int)-1,aK (List.replicate n 0)),by (try dsimp only);and_intros<;>trivial,by (try dsimp only);omega,by (try dsimp only);omega,by (try dsimp only);omega,by (try dsimp only);omega,_,rfl,by simp,cK.rep _,?_⟩,?_⟩
 ·(try dsimp only)
  rw [Qx7 (by omega),Qx7 (by simp)];rfl
 rintro ⟨rest,i,G⟩ V2 x ⟨f,g,h,j,es,rfl,m,b,a⟩;dsimp only at f g h j a ⊢;obtain ⟨rest,rfl⟩:=Qw2 f;refine ⟨by trivial,λe=>?_,λe=>?_⟩
 ·have e:0<=i:=by simpa using e
  obtain ⟨i,rfl⟩:=Qw2 e;have o:((i:Int)+1).toNat=i+1:=by omega
  rw [o] at a;simp only [Qq0] at a;refine ⟨by omega,(hx.le x).rd i rfl (by omega) ?_⟩;have y:=hx.fy.get (i:=i) (by omega)
  have s:bW .or .u64 (u64.wrap ((rest:Int)*2^32)) (u64.wrap ((xs[i]:Nat):Int))=((rest*4294967296+xs[i]:Nat):Int):=by
   have A:((2:Int)^32)=4294967296:=by decide
   rw [A,bj (by omega),bj (by omega),Is _ _ (by omega) y];omega
  rw [s]
  have t:((rest*4294967296+xs[i]:Nat):Int).tdiv (d:Int)=(((rest*4294967296+xs[i]) / d:Nat):Int):=by
   rw [Qj2 (by omega)];omega
  have B:((rest*4294967296+xs[i]:Nat):Int).tmod (d:Int)=(((rest*4294967296+xs[i])%d:Nat):Int):=by
   rw [Qk2 (by omega)];omega
  rw [t,B]
  have H:(rest*4294967296+xs[i]) / d<4294967296:=by
   rw [Qb0 (by omega)];have:rest+1<=d:=by omega
   have:=Qw0 4294967296 this;rw [Qv4 4294967296 d];omega
  have I:(rest*4294967296+xs[i])%d<d:=Qj8 _ (by omega);have C:=Qc3 (rest*4294967296+xs[i]) d;generalize (rest*4294967296+xs[i]) / d=q at *;generalize (rest*4294967296+xs[i])%d=r at *;simp (disch:=omega) only [bj,uO,au];refine ⟨by omega,⟨by omega,by omega⟩,by simp;omega,by omega,?_⟩;refine ⟨((r:Int),(i:Int)-1,aK (es.set i q)),?_,?_,?_⟩
  ·(try dsimp only);omega
  ·(try dsimp only);and_intros<;>first|trivial|(rw [←bQ];simp)
  ·(try dsimp only)
   refine ⟨by omega,by omega,by omega,by omega,_,rfl,by simpa using m,b.set _ _ (by omega),?_⟩;have u:((i:Int)-1+1).toNat=i:=by omega
   rw [u,Qw4 (by omega),Qw4 (l:=es.set i q) (by simp;omega),Qf5,Qb2 (by omega)];have D:xs[i]+4294967296*val (List.drop (i+1) xs)=d*(q+4294967296*val (List.drop (i+1) es))+r:=Bi a C;rw [bM,bM,Qq0];exact D
 ·have e:i=-1:=by simp at e;omega
  subst e;simp only [Qq0] at a;have a:val xs=d*val es+rest:=by simpa using a
  intro J K L E;refine (br (RD.a_ E b (n:=n) (c:=n) (by omega) (Qq2 _))).s ?_;rintro r M N ⟨k,rfl,v⟩;refine ⟨_,_,_,rfl,λ_ O F=>?_⟩;have s:val xs / d=val es:=by rw [a,Wz8 (by omega),Qj9 (by omega),Qj1]
  have t:val xs%d=rest:=by rw [a,Wz9,Qy1 (by omega)]
  rw [uO (by omega),s,t];rw [aY b] at v;exact ⟨_,_,_,rfl,v.le F⟩
theorem KO (a b:Nat)(ha:a<4294967296)(hb:b<4294967296:=by omega):bW .or .u32 (a:Int) (b:Int)=((a ||| b:Nat):Int):=by
 rw [bW,kj]
 have c:(BitVec.ofInt IntKind.u32.bits ((a:Nat):Int) ||| BitVec.ofInt IntKind.u32.bits (b:Int)).toNat=a ||| b:=by
  show (BitVec.ofInt 32 ((a:Nat):Int) ||| BitVec.ofInt 32 (b:Int)).toNat=_;rw [Qj4,Qj4,Wz7,Qv0,Qv0,Qy1 (by omega),Qy1 (by omega)]
 have d:a ||| b<2^32:=Wy0 (by omega) (by omega);rw [c];omega
theorem YE {m:Nat}(h:c<2^r):c ||| m*2^r=c+m*2^r:=by
 rw [Nat.or_comm,←Wz0,←Qt5 h,Wx0]
theorem IV {d:Nat}(hd:d<4294967296)(hr:r<32)(hc:c<2^r) :
  c ||| (d*2^r%4294967296)=c+d*2^r%4294967296/\c+d*2^r%4294967296<4294967296/\d*2^r / 4294967296<2^r/\d*2^r<18446744073709551616:=by
 have e:4294967296=2^(32-r)*2^r:=by rw [←Qz8,Qn8 (by omega)]
 have a:d*2^r%4294967296=(d%2^(32-r))*2^r:=by
  rw [e,Nat.mul_mod_mul_right]
 have f:d%2^(32-r)+1<=2^(32-r):=Qj8 _ (Qk4 _);have b:=Qw0 (2^r) f;have h:2^r<=2^31:=Qx2 (by omega) (by omega);have g:d*2^r<4294967296*2^r:=Qm4 hd (Qk4 _);refine ⟨by rw [a,YE hc],?_,?_,by omega⟩
 ·rw [a];rw [Qk1,Qc9] at b;rw [←e] at b;omega
 ·rw [Qb0 (by omega),Qv4 (2^r)];exact g
theorem D0 (h:RD V p n c ds)(hm:ds.length<=1099511627776)(k:Nat)(hk:k<=1048576:=by omega) :
  aa prog 278 #[hF p n c,qvK .u64 (k:Int)] V λr V'=>∃p' n' c',r=hF p' n' c'/\RN V' p' n' c' (val ds*2^k)/\(val ds=0\/c'=(ah (val ds)).length+k / 32+1):=by
 have H:=bF h.fy;refine Lp V _ λY I=>(br (h.le I)).s ?_;rintro r V2 Z ⟨n,rfl,q⟩;rw [aY h.fy] at q;generalize hxv:val ds=x at *;have hl:=q.len;refine ⟨_,_,_,rfl,λo V3 l3=>?_,λo=>?_⟩
 ·have:ah x=[]:=Qw5.1 (by simp at o;omega);have:=bE.1 this;subst this;rw [Qc1];exact ⟨_,_,_,rfl,RD.nil,.inl rfl⟩
 ·have o:0<n:=by simp at o;omega
  have D:cI (k:Int) 1048576=k:=by unfold cI;rw [if_neg (by omega)]
  have E:(k:Int).tdiv 32=((k / 32:Nat):Int):=by rw [Qj2 (by omega)];omega
  have F:(k:Int).tmod 32=((k%32:Nat):Int):=by rw [Qk2 (by omega)];omega
  rw [D,E,F]
  have s:x*2^k=4294967296^(k / 32)*x*2^(k%32):=by
   have:2^k=4294967296^(k / 32)*2^(k%32):=by
    rw [show (4294967296:Nat)=2^32 from rfl,←Ww0,←Qz8,Qc3]
   rw [this];grind
  rw [s];generalize hw:k / 32=w at *;have t:k%32<32:=Qj8 _ (by omega);have J:w<=32768:=by omega
  generalize k%32=r at *;clear D E F;simp (disch:=omega) only [au,bj,dW];have u:((n:Int)+w+1).toNat=n+w+1:=by omega
  rw [u]
  refine ⟨by omega,by omega,by omega,by omega,by omega,λz V'=>0<=z.1/\z.1<=n/\∃es:pz Nat,z.2=aK es/\es.length=n+w+1/\cK es/\(∀c,es[z.1.toNat+w]?=some c->c<2^r) /\
   val (es.take (z.1.toNat+w+1))=4294967296^w*val ((ah x).take z.1.toNat)*2^r,λz=>n-z.1.toNat,
   ⟨(0,aK (List.replicate (n+w+1) 0)),by (try dsimp only);and_intros<;>trivial,by (try dsimp only);omega,by (try dsimp only);omega,_,rfl,by simp,cK.rep _,?_,?_⟩,?_⟩
  ·intro c a;rw [Qr6] at a;split at a
   ·cases a;exact Qk4 r
   ·cases a
  ·simp [Qp9,yX]
  rintro ⟨i,vs⟩ V4 K ⟨f,v,es,rfl,y,b,a,d⟩;dsimp only at f v a d ⊢;obtain ⟨i,rfl⟩:=Qw2 f;simp only [Qq0] at a d;refine ⟨by trivial,λe=>?_,λe=>?_⟩
  ·have e:i<n:=by simpa using e
   refine (q.le K).rd i rfl (by omega) ?_;have L:=(aL x).get (i:=i) (by omega);have A:=a (es[i+w]'(by omega)) (Qq1 _);have ⟨M,g2,N,g4⟩:=IV L t A
   have g:(min ((r:Nat):Int).toNat IntKind.u64.bits)=r:=by
    show min _ 64=r;omega
   have O:((2:Int)^r)=((2^r:Nat):Int):=by simp
   rw [g,O];have hmul:(((ah x)[i]:Nat):Int)*((2^r:Nat):Int)=(((ah x)[i]*2^r:Nat):Int):=by simp
   simp (disch:=omega) only [au];rw [bj (x:=(((ah x)[i]:Nat):Int)) (by omega),hmul,bj (by omega),kj,uH];have B:((i:Int)+w).toNat=i+w:=by omega
   have j:((i:Int)+w+1).toNat=i+w+1:=by omega
   rw [B,j];refine ⟨by omega,⟨by omega,by omega⟩,((es[i+w]'(by omega):Nat):Int),by rw [Qz1,Qk6];exact iJ (by omega),⟨by omega,by omega⟩,by simp;omega,by omega,⟨by omega,by omega⟩,by simp;omega,?_⟩;have P:(((ah x)[i]*2^r:Nat):Int)%4294967296=(((ah x)[i]*2^r%4294967296:Nat):Int):=by omega
   have Q:(((ah x)[i]*2^r:Nat):Int) / 4294967296=(((ah x)[i]*2^r / 4294967296:Nat):Int):=by omega
   rw [P,Q,KO _ _ (by omega),M];have R:=Qg4 ((ah x)[i]*2^r) 4294967296;have S:(ah x)[i]*2^r / 4294967296<4294967296:=by omega
   have C:val (List.take (i+1) (ah x))=val (List.take i (ah x))+4294967296^i*(ah x)[i]:=ay _ _;have T:val (es.take (i+w+1))=val (es.take (i+w))+4294967296^(i+w)*es[i+w]'(by omega):=ay _ _;generalize (ah x)[i]*2^r%4294967296=lo at *;generalize hhi:(ah x)[i]*2^r / 4294967296=hi at *;rw [uO (by omega)];refine ⟨((i:Int)+1,aK ((es.set (i+w) (es[i+w]'(by omega)+lo)).set (i+w+1) hi)),?_,?_,?_⟩
   ·(try dsimp only);omega
   ·(try dsimp only);and_intros<;>first|trivial|(rw [←bQ,←bQ];simp)
   ·(try dsimp only)
    have l:((i:Int)+1).toNat=i+1:=by omega
    refine ⟨by omega,by omega,_,rfl,by simpa using y,(b.set _ _ (by omega)).set _ _ (by omega),?_,?_⟩
    ·intro c m;rw [l,show i+1+w=i+w+1 from by omega,Qs3 (by simp;omega)] at m;cases m;exact N
    ·rw [l,show i+1+w+1=i+w+1+1 from by omega,aS _ _ _ (by simp;omega),aS _ _ _,C];rw [T] at d;have U:4294967296^(i+w+1)*hi=4294967296^(i+w)*(4294967296*hi):=by rw [Qk8];grind
     rw [U,Qb1,←Qn5,d,Qn5,←Qb1,R,Qz8];grind
  ·have e:i=n:=by simp at e;omega
   subst e;intro V5 l5 bk W;refine (br (RD.a_ W b (n:=i+w+1) (c:=i+w+1) (by omega) (Qq2 _))).s ?_;rintro r' V6 l6 ⟨k',rfl,G⟩;refine ⟨_,_,_,rfl,λ_ V7 X=>⟨_,_,_,rfl,?_,.inr (by omega)⟩⟩;rw [ao,ao,af] at d;rw [aY b,d] at G;exact G.le X
theorem IW {d Y r:Nat}(hd:d<4294967296)(hr:r<32) :
  (d+4294967296*Y) / 2^r=(d+4294967296*(Y%4294967296)) / 2^r%4294967296+4294967296*(Y / 2^r):=by
 have e:4294967296=2^r*2^(32-r):=by rw [←Qz8,Nat.add_sub_cancel' (by omega)]
 have c:=Qk4 r;have l:=Qk4 (32-r);generalize ha:2^r=a at *;generalize hb:2^(32-r)=b at *
 have f:∀Z,(d+4294967296*Z) / a=d / a+b*Z:=by
  intro Z;rw [e,Qb8,Qg1 _ _ c]
 rw [f,f]
 have g:d / a<b:=by
  rw [Qb0 c,Qv4,←e];exact hd
 have h:b*(Y%4294967296)%4294967296=b*(Y%a):=by
  rw [e,Qv4 a b,Nat.mul_mod_mul_left,Nat.mod_mul_left_mod]
 have m:b*(Y%a)+b<=4294967296:=by
  have:Y%a+1<=a:=Qj8 _ c;have:=Qz7 b this;rw [Qb1,Qk6,Qv4 b a,←e] at this;exact this
 have i:(d / a+b*(Y%4294967296))%4294967296=d / a+b*(Y%a):=by
  rw [Nat.add_mod,h,Qy1 (a:=d / a) (by omega),Qy1 (by omega)]
 rw [i];have j:=Qg4 Y a
 have k:b*Y=b*(Y%a)+4294967296*(Y / a):=by
  conv=>lhs;rw [←j]
  rw [Qb1,←Qb8,Qv4 b a,←e]
 rw [k];omega
theorem uP {xs:pz Nat}(h:cK xs)(i:Nat):val (xs.drop i)%4294967296=(xs[i]?).getD 0:=by
 rcases Qz2 i xs.length with a|a
 ·rw [Qw4 a,bM,Qq1 a,Qf3,Wx4,Qy1 (h.get a)]
 ·rw [Qx7 a,Qz6 a];rfl
theorem Nu (h:RD V p n c ds)(hm:ds.length<=1099511627776)(k:Nat)(hk:k<18446744073709551616:=by omega) :
  aa prog 279 #[hF p n c,qvK .u64 (k:Int)] V λr V'=>∃p' n' c',r=hF p' n' c'/\RN V' p' n' c' (val ds / 2^k):=by
 have S:=bF h.fy;refine Lq V _ λV1 T=>(br (h.le T)).s ?_;rintro r V2 l2 ⟨n,rfl,B⟩;rw [aY h.fy] at B;generalize val ds=x at *;have hl:=B.len;have P:(k:Int).tdiv 32=((k / 32:Nat):Int):=by rw [Qj2 (by omega)];omega
 have C:(k:Int).tmod 32=((k%32:Nat):Int):=by rw [Qk2 (by omega)];omega
 refine ⟨_,_,_,rfl,?_⟩;rw [P,C]
 have q:x / 2^k=x / 4294967296^(k / 32) / 2^(k%32):=by
  rw [Nat.div_div_eq_div_mul,show (4294967296:Nat)=2^32 from rfl,←Ww0,←Qz8,Qc3]
 rw [q];have U:k / 32<576460752303423488:=by omega
 generalize k / 32=w at *;have E:k%32<32:=Qj8 _ (by omega);generalize k%32=r at *;clear P C q;refine ⟨by omega,λj V3 l3=>?_,λj=>?_⟩
 ·have j:n<=w:=by
   rw [bj (by omega),bj (by omega)] at j;simp at j;omega
  have:x / 4294967296^w=0:=Qj9 (Qx5 (aM.1 (Qq2 _)) (Qx2 (by omega) (by omega)));rw [this,Wk0];exact ⟨_,_,_,rfl,RD.nil⟩
 ·have j:w<n:=by
   rw [bj (by omega),bj (by omega)] at j;simp at j;omega
  simp (disch:=omega) only [au,bj,dW];have F:((n:Int)-w).toNat=n-w:=by omega
  rw [F]
  have G:x / 4294967296^w=val ((ah x).drop w):=by
   have e:val (ah x)=val ((ah x).take w++(ah x).drop w):=by rw [Qv9]
   have s:=h_ ((aL x).take w);rw [eW,af] at e;rw [Qq7,Qj3 (by omega)] at e s
   have g:∀y,y=val ((ah x).take w)+4294967296^w*val ((ah x).drop w)->y / 4294967296^w=val ((ah x).drop w):=by
    intro y W;rw [W,Qg1 _ _ (Ww1 (by omega)),Qj9 s,Qz1]
   exact g x e
  rw [G]
  refine ⟨by omega,by omega,by omega,by omega,by omega,λz V'=>0<=z.1/\z.1<=(n-w:Nat)/\∃es:pz Nat,z.2=aK es/\es.length=n-w/\cK es /\
   val (es.take z.1.toNat)+4294967296^z.1.toNat*(val ((ah x).drop (w+z.1.toNat)) / 2^r)=val ((ah x).drop w) / 2^r,λz=>(n-w)-z.1.toNat,
   ⟨(0,aK (List.replicate (n-w) 0)),by (try dsimp only);and_intros<;>trivial,by (try dsimp only);omega,by (try dsimp only);omega,_,rfl,by simp,cK.rep _,by simp⟩,?_⟩
  rintro ⟨i,vs⟩ V4 Q ⟨t,H,es,rfl,I,m,b⟩;dsimp only at t H b ⊢;obtain ⟨i,rfl⟩:=Qw2 t;simp only [Qq0] at b;refine ⟨by trivial,λu=>?_,λu=>?_⟩
  ·have u:i<n-w:=by simpa using u
   simp (disch:=omega) only [au];refine (B.le Q).rd (w+i) (by omega) (by omega) ?_;have R:=(aL x).get (i:=w+i) (by omega);have v:=IW (Y:=val ((ah x).drop (w+i+1))) R E;rw [uP (aL x)] at v
   have d:(min ((r:Nat):Int).toNat IntKind.u64.bits)=r:=by
    show min _ 64=r;omega
   have o:val ((ah x).drop (w+i))=(ah x)[w+i]+4294967296*val ((ah x).drop (w+i+1)):=by
    rw [Qw4 (by omega),bM]
   rw [o] at b;rw [v] at b
   have nxt:∀D:Nat,D=((ah x)[w+i]+4294967296*((ah x)[w+i+1]?).getD 0) / 2^r%4294967296 ->
     ∃a:pz Nat,(aK es).set (0+i*1) (qvK .u32 (D:Int))=aK a/\a.length=n-w/\cK a /\
     val (a.take (i+1))+4294967296^(i+1)*(val ((ah x).drop (w+(i+1))) / 2^r)=val ((ah x).drop w) / 2^r:=by
    intro D X;refine ⟨es.set i D,by rw [←bQ];simp,by simpa using I,m.set _ _ (by omega),?_⟩;rw [aS _ _ _,←b,X,Qk8,Qb1,Qn5,Qb8,Qn5 w i 1]
   have A:((i:Int)+1).toNat=i+1:=by omega
   refine ⟨λf=>?_,λf=>?_⟩
   ·have f:w+i+1<n:=by simp at f;omega
    refine (B.le Q).rd (w+i+1) (by omega) (by omega) ?_;have J:=(aL x).get (i:=w+i+1) (by omega)
    have K:bW .or .u64 (u64.wrap (((ah x)[w+i]:Nat):Int)) (u64.wrap (u64.wrap (((ah x)[w+i+1]:Nat):Int)*2^32))=(((ah x)[w+i]+4294967296*((ah x)[w+i+1]?).getD 0:Nat):Int):=by
     have C:((2:Int)^32)=4294967296:=by decide
     rw [C,bj (by omega),bj (x:=(((ah x)[w+i+1]:Nat):Int)) (by omega),bj (by omega),Rz _ _ J R,Qq1 (by omega),Qf3];omega
    rw [K,d,kN,kj];refine ⟨by omega,by omega,⟨by omega,by omega⟩,by simp;omega,?_⟩;have ⟨a,L,M,N,O⟩:=nxt _ rfl;refine ⟨((i:Int)+1,aK a),?_,?_,?_⟩
    ·(try dsimp only);omega
    ·(try dsimp only);and_intros<;>first|trivial|(rw [←L];simp)
    ·(try dsimp only)
     exact ⟨by omega,by omega,a,rfl,M,N,by rw [A];exact O⟩
   ·have f:n<=w+i+1:=by simp at f;omega
    have K:u64.wrap (((ah x)[w+i]:Nat):Int)=(((ah x)[w+i]+4294967296*((ah x)[w+i+1]?).getD 0:Nat):Int):=by
     rw [bj (by omega),Qz6 (by omega)];simp
    rw [K,d,kN,kj];refine ⟨by omega,⟨by omega,by omega⟩,by simp;omega,?_⟩;have ⟨a,L,M,N,O⟩:=nxt _ rfl;refine ⟨((i:Int)+1,aK a),?_,?_,?_⟩
    ·(try dsimp only);omega
    ·(try dsimp only);and_intros<;>first|trivial|(rw [←L];simp)
    ·(try dsimp only)
     exact ⟨by omega,by omega,a,rfl,M,N,by rw [A];exact O⟩
  ·have u:i=n-w:=by simp at u;omega
   intro V5 l5 bk Z;refine (br (RD.a_ Z m (n:=n-w) (c:=n-w) (by omega) (Qq2 _))).s ?_;rintro r' V6 l6 ⟨k',rfl,f⟩;refine ⟨_,_,_,rfl,λ_ V7 l7=>⟨_,_,_,rfl,?_⟩⟩;rw [ao,Qx7 (l:=ah x) (i:=w+i) (by omega)] at b
   have b:val es=val ((ah x).drop w) / 2^r:=by
    rw [←b,fZ,Wk0,Qj7,Qj1]
   rw [aY m,b] at f;exact f.le l7
end Go.Proofs.Tryz
namespace Go.Big
variable{B G T W Y t' u0 u1 u2 v' v1 v2 ρ:Nat}
theorem NU (hY:Y=(v1*W+v2)*B+v')(hT:T=((u0*W+u1)*W+u2)*B+t')(ht:t'<B)
  (hg:G*v1+ρ=u0*W+u1)(hd:ρ*W+u2<G*v2):T<G*Y:=by
 have a:(u0*W+u1)*W+u2+1<=G*(v1*W+v2):=by grind [Nat.add_mul]
 have b:=Qw0 B a;have c:G*(v1*W+v2)*B<=G*Y:=by rw [hY,Qb8];exact Qz7 _ (Qp7 _ _)
 rw [Qk1,Qc9] at b;omega
theorem Em (hY:Y=(v1*W+v2)*B+v')(hT:T=((u0*W+u1)*W+u2)*B+t')(hv:v'<B)(hv1:1<=v1)(hW:0<W)
  (hg:G*v1+ρ=u0*W+u1)(hd:G*v2<=ρ*W+u2)(hG:G<=W:=by omega):G*Y<T+Y:=by
 have a:G*(v1*W+v2)<=(u0*W+u1)*W+u2:=by grind [Nat.add_mul]
 have b:=Qw0 B a;have c:G*v'<=W*v':=Qw0 _ hG;have d:W*v'<W*B:=Nat.mul_lt_mul_of_pos_left hv hW
 have e:W*B<=v1*W*B:=by
  have:=Qw0 (W*B) hv1;grind
 have f:(v1*W+v2)*B=v1*W*B+v2*B:=Qk1 _ _ _;have g:G*Y=G*(v1*W+v2)*B+G*v':=by rw [hY,Qb1,Qb8]
 omega
theorem En (hY:Y=(v1*W+v2)*B+v')(hT:T=((u0*W+u1)*W+u2)*B+t')(hv:v'<B)(h:T<W*Y):u0*W+u1<=v1*W+v2:=by
 rcases Qz2 (v1*W+v2) (u0*W+u1) with a|a
 ·exfalso;have b:(v1*W+v2+1)*W<=(u0*W+u1)*W:=Qw0 _ a;have c:=Qw0 B b
  have d:W*Y<=W*((v1*W+v2+1)*B):=by
   rw [hY,Qk1 (v1*W+v2) 1 B,Qc9];exact Qz7 _ (by omega)
  grind
 ·exact a
theorem Qp (hY:Y=(v1*W+v2)*B+v')(hT:T=((u0*W+u1)*W+u2)*B+t')(ht:t'<B)(hu:u2<W)
  (hg:G*v1+ρ=u0*W+u1)(hr:ρ<v1):T<(G+1)*Y:=by
 have a:u0*W+u1+1<=(G+1)*v1:=by rw [Qk1,Qc9];omega
 have b:=Qw0 (W*B) a
 have c:(G+1)*v1*(W*B)<=(G+1)*Y:=by
  rw [hY,Qb8];grind
 have d:((u0*W+u1)*W+u2)*B+t'<(u0*W+u1+1)*(W*B):=by
  have e:(u2+1)*B<=W*B:=Qw0 _ hu;grind
 omega
theorem EK {F U c b g d u Y W S:Nat}{x:Int}(h:F+W*(g*Y)=U+W*S*(c+b))(hc:c<4294967296)(hb:b<=1)(hu:u<4294967296)
  (hx:x=((u:Int)-((c+g*d)%4294967296:Nat)-b)%18446744073709551616) :
  0<=x/\0<=x / 9223372036854775808/\x / 9223372036854775808<=1 /\
  F+W*S*(x%4294967296).toNat+W*(g*(Y+S*d))=U+W*S*u+W*(S*4294967296)*((c+g*d) / 4294967296+(x / 9223372036854775808).toNat):=by
 have k:=Qg4 (c+g*d) 4294967296;have hm:(c+g*d)%4294967296<4294967296:=Qj8 _ (by omega);generalize (c+g*d) / 4294967296=q at *;generalize (c+g*d)%4294967296=m at *;have key:∃o B:Nat,(x%4294967296).toNat=o/\(x / 9223372036854775808).toNat=B/\u+4294967296*B=o+m+b/\0<=x/\0<=x / 9223372036854775808/\x / 9223372036854775808<=1:=by grind
 obtain ⟨o,B,a,e,l,f,i,j⟩:=key;refine ⟨f,i,j,?_⟩;rw [a,e];have n:u+4294967296*(B+q)=o+b+(c+g*d):=by omega
 have p:W*S*u+W*(S*4294967296)*(q+B)=W*S*(u+4294967296*(B+q)):=by grind
 grind
theorem DM {F U c d u Y W S t:Nat}(h:F+W*S*c=U+W*Y)(ht:t=c+u+d:=by omega) :
  F+W*S*(t%4294967296)+W*(S*4294967296)*(t / 4294967296)=U+W*S*u+W*(Y+S*d):=by
 have a:W*S*(t%4294967296)+W*(S*4294967296)*(t / 4294967296)=W*S*t:=by grind [Nat.mod_add_div]
 grind
end Go.Big
