import Derived.Test.YtlhmddanbgcbjaaGreatDoorCards
import Derived.Test.YtlhmddanbgcbjaaGreatDoorTie
import Derived.ProofKit
import Derived.OpenShut
import Derived.Deep.DeepHandedRow
import Derived.LaidLaws
import Derived.Lay
import Derived.Carry
import Derived.IntWalk
import Derived.Shelf.SlLaysF0
import Derived.Shelf.Lays
import Derived.Shelf.Small.Bits
import Derived.Shelf.Bits.Mul64
import Derived.Test.YtlhmddanbgcbjaaGreatDoorF6
set_option linter.all false
open Go.IntKind (i64 u64 u32)
open Go.Value renaming int→Ô,slice→zF,bool→dB,tuple→tN
namespace Go.Proofs.YtlhmddanbgcbjaaGreatDoor
open Go.ChangeShapes Go.WideShapes Go.ChangeAt Go.RowKit Go.Eng
theorem own:ownKnob Tryz.prog.godebug=none:=ζ
def star : "*" ++ "errors.errorString" = "*errors.errorString" := by decide
def rowE (u : TypeId)(h : Tryz.prog.typeName? 3 u = some "*errors.errorString") : u = 375 :=
 typeName_ptr_named (nm := "errors.errorString") (by rw [star]; kernel_rfl) ζ φ u (by rw [star]; exact h)
def Zw:Tryz.prog.cellsOf 391=1:=ζ
def Zx:Tryz.prog.cellsOf 9=1:=ζ
def row0 (g:Nat):MemPlace.cell g 0∈MemPlace.row ⟨g,0,none⟩ 1:=by simp [MemPlace.row]
def Yl {P:Program}{W:World}{name:String}{g:Nat}{v:un}(hg:P.globalNamed name=some g)(h:W.var? P name=some #[v]):W.cell? ⟨g,0,none⟩=some v:=by simpa using World.var?_cell hg h 0
set_option maxRecDepth 100000 in
def vM {W:World}{l:pz (String×DataW Unit)}{name:String}{text:pz UInt8}{g:Nat}(hg:Tryz.prog.globalNamed name=some g)(hty:(Tryz.prog.globals[g]?).map (·.type)=some 40)(hm : (name, .iface "*errors.errorString" (.ptr (.agg [.lit (.string text)]))) ∈ l)(h : laidMet Tryz.prog l W):∃a,W.cell? ⟨g,0,none⟩=some (.iface 375 (.pointer (some a))):=by
 obtain ⟨k,m,-,c⟩:=h
 induction l generalizing k with
 | nil=>cases hm
 | cons x r ih=>
  obtain ⟨n,d⟩:=x;obtain ⟨B,t,cs,fuel,p,q,i,o,f,w,y,rfl⟩:=m;rcases å.1 hm with e|hm
  ·cases e;obtain rfl:=ŏ (hg.symm.m i);obtain rfl:=ŏ (hty.symm.m o);obtain ⟨z⟩:=cs
   have j:∀u v,z=[.iface u v]->Value.okWide Tryz.prog W .any 0 u v:=λu v e=>by
    subst e;exact (c g 0 (ĭ _ (ĭ _ (row0 g)))).2 u v (Yl hg f)
   obtain ⟨a,s,rfl,-⟩:=errorString_of_trod Tryz.underlying40 rowE Tryz.underlying375 Tryz.underlying391 rfl rfl Tryz.underlying9 Zw Zx w j;exact ⟨a,Yl hg f⟩
  ·exact ih hm q y λb off A=>c b off (Ľ _ A)
def Ó.all (W:World):Ó:=⟨W,λ_=>False,λ_=>False,λ_ h=>h.elim,λ_ h=>h⟩
def JO {w w':World}(h:kq (λ_=>False) w w')(may:MemPlace->Prop):w.keptBut w' may:=by refine ⟨h.os,h.out,λi a=>?_⟩;rw [h.bg i a (λh=>h)];(cases w.heap[i]? with|none=>rfl|some o=>{cases o<;>simp})
def Ea {f:FuncId}{args:Array un}{W:World}{R:un->Prop}(h:aa Tryz.prog f args (Ó.all W) λr _=>R r):Calls Tryz.prog f args W λe w'=>∃r,e=.returned r/\R r/\kq (λ_=>False) W w':=
 h.2.s λe w' ⟨r,he,a,b⟩=>⟨r,he,b,a⟩
def laidOut:laidOutB Tryz.prog=true:=ζ
def GD {w w':World}(h:kq (λ_=>False) w w'):Below w.heap.size w w':=⟨h.os,h.tape,h.out,h.size,λk a=>h.bg k a (λh=>h)⟩
def O8 {P:Program}(hlo:laidOutB P=true){H:Type}{enc:TypeId×un->H}{W W':World}(hb:Below W.heap.size W W')(ts:pz TypeId):∀{vs:pz un} {ds:pz (DataW H)} {ps:pz MemPlace},(ts.all λt=>P.readableRec t&&decide (t<P.types.size))=true->DataW.TrodAll enc P W 0 (λ_=>true) true ts vs ds ps->(∀x∈ps,x.block<W.heap.size) ->DataW.TrodAll enc P W' 0 (λb=>decide (b<W.heap.size)) true ts vs ds ps:=by
 induction ts with
 | nil=>
  intro vs ds ps _ h _;obtain ⟨rfl,rfl,rfl⟩:=trodAll_nil h;exact trodAll_mk0
 | cons t ts ih=>
  intro vs ds ps c h a;obtain ⟨v,f,d,g,p,q,rfl,rfl,rfl,i,j⟩:=trodAll_cons h;simp only [List.all_cons,ċ,Ñ] at c;exact trodAll_cons_mk (Below.trod hlo c.1.1 c.1.2 i hb λx e=>a x (ĭ _ e)) (ih c.2 j λx e=>a x (Ľ _ e))
set_option maxRecDepth 100000 in
def WS {H:Type}{enc:TypeId×un->H}{fid:FuncId}{f:Func}{s:ChangeSpec}{W:World}{args:Array un}{ds gs:pz (DataW H)}{before:pz MemPlace}{fresh handsOn:md}(hW:DataW.Whole enc Tryz.prog f.params.toList s.vars false W args.toList ds gs before)(hvars:s.vars=[])(hts:(f.params.toList.all λt=>Tryz.prog.readableRec t&&decide (t<Tryz.prog.types.size))=true)(hres:f.resultTypes=#[4])(hs:s.fn H (ds++gs)={ results:=[.lit (.bool true)],args:=ds })(h:aa Tryz.prog fid args (Ó.all W) λr _=>r=.bool true):Calls Tryz.prog fid args W λe W'=>∃v,e=.returned v/\s.post enc Tryz.prog f false fresh handsOn false W args v W':=by refine (Ea h).s λe W' ⟨r,he,g,a⟩=>?_;subst he g;have b:=hW;obtain ⟨p,q,i,d,rfl,-,-⟩:=hW;rw [hvars] at d;obtain ⟨rfl,rfl⟩:=trodVars_none d;have c:∀x∈p++[],x.block<W.heap.size:=λx a=>b.lt x a;refine ⟨_,rfl,ds,_,p++[],[],p++[],[],b,?_,?_,?_,JO a _,λh=>nomatch h⟩;{rw [hs,hres];exact trodAll_cons_mk (shut_bool Tryz.underlying4 _) trodAll_mk0};{rw [hs,Ć];exact O8 laidOut (GD a) _ hts i λx a=>c x (by rw [Ć];exact a)};{rw [hs,hvars];rfl}
set_option maxRecDepth 100000 in
def Ko {H:Type}{enc:TypeId×un->H}{W:World}{p:OA}{n c:Nat}{d:DataW H}{ps:pz MemPlace}(h:DataW.Trod enc Tryz.prog W 0 (λ_=>true) true 22 (.slice p n c) d ps):n<=c/\∀i,i<n->∃(a:Addr)(x:Int),ae p (i*1)=some a/\(Ó.all W).at a (.int .i64 x):=by obtain ⟨fuel,k⟩:=h;rcases open_ints Tryz.underlying22 Tryz.underlying3 (show Tryz.prog.cellsOf 3=1 by kernel_rfl) k with ⟨b,-⟩|⟨a,f,g,o,b,_,l,-,m,-,e,-⟩;{simp [Value.cells] at b;obtain ⟨rfl,rfl,rfl⟩:=b;exact ⟨Ù _,λi j=>Å j ω⟩};{simp [Value.cells] at b;obtain ⟨rfl,rfl,rfl⟩:=b;simp only [Ï] at m;exact ⟨l,λi j=>⟨a.add i,_,by rw [Ē];rfl,λh=>h,e i ω⟩⟩}
end Go.Proofs.YtlhmddanbgcbjaaGreatDoor
namespace Go.Big
variable{a ds:List Nat}{n:Nat}
def val:List Nat->Nat
 | []=>0
 | d::r=>d+4294967296*val r
def cV (ds:List Nat):Prop:=∀d∈ds,d<4294967296
def dm:List Nat->List Nat
 | []=>[]
 | d::r=>if dm r=[]/\d=0 then [] else d::dm r
def yZ (ds:List Nat):Prop:=dm ds=ds
def BA:Nat->Nat->List Nat
 | 0,_=>[]
 | f+1,n=>if n=0 then [] else n%4294967296::BA f (n/4294967296)
def ah (n:Nat):List Nat:=BA n n
@[simp] theorem gG:val []=0:=rfl
@[simp] theorem bO (d:Nat)(r:List Nat):val (d::r)=d+4294967296*val r:=rfl
theorem cV.nil:cV []:=λ_ h=>nomatch h
theorem cV.cons {d:Nat}{r:pz Nat}:cV (d::r)↔d<4294967296/\cV r:=by simp [cV]
theorem cV.append {b:pz Nat}:cV (a++b)↔cV a/\cV b:=by simp [cV,or_imp,forall_and]
theorem cV.take (h:cV a)(k:Nat):cV (a.take k):=λd b=>h d (Qn5 b)
theorem cV.drop (h:cV a)(k:Nat):cV (a.drop k):=λd b=>h d (Qg5 b)
theorem cV.set (h:cV a)(k x:Nat)(hx:x<4294967296):cV (a.set k x):=λd c=>by
 rcases List.mem_or_eq_of_mem_set c with b|b
 ·exact h d b
 ·exact b▸hx
theorem cV.get (h:cV a){i:Nat}(hi:i<a.length):a[i]<4294967296:=h _ (ù hi)
theorem cV.rep (n:Nat):cV (List.replicate n 0):=λd a=>by rw [Qr9 a];omega
theorem eW (a b:pz Nat):val (a++b)=val a+4294967296^a.length*val b:=by
 induction a with
 | nil=>simp
 | cons d r ih=>simp only [Qc0,bO];grind
theorem iX (h:cV ds):val ds<4294967296^ds.length:=by
 induction ds with
 | nil=>simp
 | cons d r ih=>
  have a:=cV.cons.1 h;grind [val]
theorem AO (n:Nat):val (List.replicate n 0)=0:=by
 induction n with
 | zero=>rfl
 | succ n ih=>simp [List.replicate_succ,ih]
theorem aA (ds:pz Nat)(i:Nat)(h:i<ds.length:=by omega):val (ds.take (i+1))=val (ds.take i)+4294967296^i*ds[i]:=by rw [Qz1 h,eW];simp [ģ (Qs0 h)]
theorem ao {ds:pz Nat}{i:Nat}(h:ds.length<=i:=by omega):val (ds.take i)=val ds:=by rw [Qv3 h]
theorem Ep (ds:pz Nat)(i x:Nat)(h:i<ds.length):(ds.set i x).take (i+1)=ds.take i++[x]:=by grind [List.take_succ_eq_append_getElem,List.take_set,List.set_eq_of_length_le]
theorem aV (ds:pz Nat)(i x:Nat)(h:i<ds.length:=by omega):val ((ds.set i x).take (i+1))=val (ds.take i)+4294967296^i*x:=by rw [Ep ds i x h,eW];simp [ģ (Qs0 h)]
theorem kh (r:pz Nat):dm (r++[0])=dm r:=by
 induction r with
 | nil=>simp [dm]
 | cons d r ih=>simp only [Qc0,dm,ih]
theorem ui (r:pz Nat)(d:Nat)(h:d≠0):dm (r++[d])=r++[d]:=by
 induction r with
 | nil=>simp [dm,h]
 | cons x r ih=>simp [dm,ih]
theorem QV (ds:pz Nat):val (dm ds)=val ds:=by
 induction ds with
 | nil=>rfl
 | cons d r ih=>
  simp only [dm];split
  ·rename_i h;rw [bO,<-ih,h.1,h.2];rfl
  ·simp [ih]
theorem nU (ds:pz Nat):(dm ds).length<=ds.length:=by
 induction ds with
 | nil=>simp [dm]
 | cons d r ih=>simp only [dm];split<;>simp<;>omega
theorem QT (ds:pz Nat):dm ds=ds.take (dm ds).length:=by induction ds<;>grind [dm]
theorem cV.trim (h:cV ds):cV (dm ds):=by rw [QT];exact h.take _
theorem KJ (ds:pz Nat):yZ (dm ds):=by
 unfold yZ
 induction ds with
 | nil=>rfl
 | cons d r ih=>
  rw [dm];split
  ·rfl
  ·rename_i h;rw [dm,ih,Ã h]
theorem yZ.tail {d:Nat}{r:pz Nat}(h:yZ (d::r)):yZ r:=by unfold yZ at h ⊢;simp only [dm] at h;split at h;{cases h};{injection h}
theorem yZ.zero (h:yZ ds)(hv:val ds=0):ds=[]:=by
 induction ds with
 | nil=>rfl
 | cons d r ih=>
  have a:=ih h.tail (by simp at hv;omega);subst a;simp at hv;subst hv;simp [yZ,dm] at h
theorem uX:∀(f n:Nat),n<=f->val (BA f n)=n/\cV (BA f n)/\yZ (BA f n)
 | 0,n,h=>⟨by simp [BA];omega,cV.nil,rfl⟩
 | f+1,n,h=>by
  simp only [BA];split
  ·subst_vars;exact ⟨rfl,cV.nil,rfl⟩
  ·have ⟨h1,h2,h3⟩:=uX f (n/4294967296) ω;refine ⟨by rw [bO,h1];omega,cV.cons.2 ⟨ω,h2⟩,?_⟩;unfold yZ at h3 ⊢;rw [dm,h3,Ã];rintro ⟨a,b⟩;rw [a] at h1;simp at h1;omega
theorem af (n:Nat):val (ah n)=n:=(uX n n (Ù _)).1
theorem aN (n:Nat):cV (ah n):=(uX n n (Ù _)).2.1
theorem lE (n:Nat):yZ (ah n):=(uX n n (Ù _)).2.2
theorem yZ.ext:∀{a b:pz Nat},cV a->cV b->yZ a->yZ b->val a=val b->a=b
 | [],b,_,_,_,hb,h=>(hb.zero (by rw [<-h];rfl)).symm
 | d::r,[],_,_,ha,_,h=>by have:=ha.zero h;cases this
 | d::r,e::s,ha,hb,na,nb,h=>by
  have f:=(cV.cons.1 ha).1;have g:=(cV.cons.1 hb).1;simp only [bO] at h;have:val r=val s:=ω
  have c:=yZ.ext (cV.cons.1 ha).2 (cV.cons.1 hb).2 na.tail nb.tail this;grind
theorem BB (h:cV ds)(hn:yZ ds):ah (val ds)=ds:=yZ.ext (aN _) h (lE _) hn (af _)
theorem aZ (h:cV ds):dm ds=ah (val ds):=by rw [<-QV,BB h.trim (KJ _)]
theorem uY {a b:Nat}(h:ah a=ah b):a=b:=by rw [<-af a,h,af]
@[simp] theorem FA:ah 0=[]:=rfl
theorem bR:ah n=[]↔n=0:=⟨λh=>uY (by rw [h];rfl),λh=>h▸rfl⟩
theorem yZ.last (h:yZ ds)(hl:0<ds.length):ds[ds.length-1]≠0:=by intro e;have a:ds=ds.take (ds.length-1)++[ds[ds.length-1]]:=by{grind [List.take_succ_eq_append_getElem,Nat.sub_add_cancel,List.take_length]};rw [e] at a;have b:dm ds=ds:=h;rw [a,kh] at b;have:=nU (ds.take (ds.length-1));grind
theorem JY (h:∀hl:0<ds.length,ds[ds.length-1]≠0):yZ ds:=by rcases Ĳ ds.length with e|e;{rw [ĕ.1 e];rfl};{have a:ds=ds.take (ds.length-1)++[ds[ds.length-1]]:=by{grind [List.take_succ_eq_append_getElem,Nat.sub_add_cancel,List.take_length]};have:=ui (ds.take (ds.length-1)) _ (h e);rw [<-a] at this;exact this}
theorem UZ (h:yZ ds)(hl:0<ds.length:=by omega):4294967296^(ds.length-1)<=val ds:=by have a:ds=ds.take (ds.length-1)++[ds[ds.length-1]]:=by{grind [List.take_succ_eq_append_getElem,Nat.sub_add_cancel,List.take_length]};have b:=h.last hl;rw [a,eW];simp only [bO,gG];simp only [í,é,Qc4];rw [ģ ω,Qm4 hl];have:4294967296^(ds.length-1)*1<=4294967296^(ds.length-1)*(ds[ds.length-1]+4294967296*0):=Ł _ ω;omega
theorem aP {n k:Nat}:(ah n).length<=k↔n<4294967296^k:=by constructor;{grind [iX,aN,af,Nat.lt_of_lt_of_le,Nat.pow_le_pow_right]};{intro h;rcases ĉ k (ah n).length with a|a;{have:=UZ (lE n);rw [af] at this;have b:4294967296^k<=4294967296^((ah n).length-1):=Į ω ω;omega};{exact a}}
theorem yx {k:Nat}:k<(ah n).length↔4294967296^k<=n:=by have:=@aP n k;omega
theorem jx (ds:pz Nat)(i:Nat)(h:i<ds.length):val ds=val (ds.take i)+4294967296^i*(ds[i]+4294967296*val (ds.drop (i+1))):=by have a:val ds=val (ds.take i++ds.drop i):=by{rw [Qv0]};grind [eW,List.drop_eq_getElem_cons,bO]
theorem mD {b:pz Nat}{i:Nat}(ha:cV a)(hi:i<a.length)(hj:i<b.length)(hd:a.drop (i+1)=b.drop (i+1))(hl:a[i]<b[i]):val a<val b:=by rw [jx a i hi,jx b i hj,hd];have c:=iX (ha.take i);simp only [é,ģ (Qs0 hi)] at c;have d:4294967296^i*(a[i]+4294967296*val (b.drop (i+1))+1)<=4294967296^i*(b[i]+4294967296*val (b.drop (i+1))):=Ł _ ω;grind
theorem nM {a b:Nat}(h:(ah a).length<(ah b).length:=by omega):a<b:=by have c:=iX (aN a);have d:=UZ (lE b);rw [af] at c d;have e:4294967296^(ah a).length<=4294967296^((ah b).length-1):=Į ω ω;omega
def nt (a b:Nat):Int:=if a<b then -1 else if b<a then 1 else 0
theorem aO {a b:Nat}(h:a<=b:=by omega):(ah a).length<=(ah b).length:=by rcases ĉ (ah b).length (ah a).length with c|c;{have:=nM c;omega};{exact c}
theorem bo (h:cV ds):(ah (val ds)).length<=ds.length:=by rw [<-aZ h];exact nU ds
theorem Wl (h:n<4294967296)(h0:n≠0:=by omega):ah n=[n]:=by have:yZ [n]:=by{simp [yZ,dm,h0]};have:=BB (by simp [cV];exact h) this;simpa using this
end Go.Big
namespace Go.Eng
open Go.Big
variable{ds:List Nat}{p:OA}{c n:Nat}{V:Ó}
theorem au {x:Int}(h:-9223372036854775808<=x/\x<=9223372036854775807):i64.wrap x=x:=IntWalk.i64_in x h
theorem bj {x:Int}(h:0<=x/\x<=18446744073709551615):u64.wrap x=x:=IntWalk.u64_in x h
theorem vV {x:Int}(h:0<=x/\x<=4294967295):u32.wrap x=x:=IntWalk.u32_in x h
theorem kM (x:Int):u32.wrap x=x%4294967296:=by rw [IntKind.wrap_u32]
theorem zM (x:Int):u64.wrap x=x%18446744073709551616:=by rw [IntKind.wrap_u64]
theorem vP {x:Int}:x.fdiv (2^32)=x/4294967296:=by rw [Wx4 _ φ];rfl
theorem UF {x:Int}:x.fdiv (2^63)=x/9223372036854775808:=by rw [Wx4 _ φ];rfl
theorem Ka (a b:Nat)(ha:a<4294967296)(hb:b<4294967296):cg .or .u64 ((a:Int)*4294967296) (b:Int)=(a:Int)*4294967296+b:=by have c:((a:Int)*4294967296)=((a*2^32:Nat):Int):=ψ;rw [cg,c,zM];have d:(BitVec.ofInt IntKind.u64.bits ((a*2^32:Nat):Int) ||| BitVec.ofInt IntKind.u64.bits (b:Int)).toNat=a*2^32+b:=by{show (BitVec.ofInt 64 ((a*2^32:Nat):Int) ||| BitVec.ofInt 64 (b:Int)).toNat=_;rw [ř,ř,Wk5,Ŕ,Ŕ,ĝ ω,ĝ ω];have:=Wq1 (b:=b) (i:=32) ω a;grind [Nat.shiftLeft_eq]};omega
def aM (ds:List Nat):List Value:=ds.map λ(d:Nat)=>Value.int .u32 (d:Int)
@[simp] theorem u32s_len (ds:List Nat):(aM ds).length=ds.length:=by simp [aM]
theorem bT (ds:pz Nat)(i x:Nat):(aM ds).set i (Ô .u32 (x:Int))=aM (ds.set i x):=by simp [aM]
theorem dZ (n:Nat):List.replicate n (Value.int .u32 0)=aM (List.replicate n 0):=by simp [aM]
theorem iV {i:Nat}(h:i<ds.length):(aM ds)[i]?=some (Ô .u32 (ds[i]:Int)):=by simp [aM,h]
theorem Gq (ds:pz Nat)(k:Nat):aM (ds.take k)=(aM ds).take k:=by simp [aM,Wz2]
theorem QU (ds:pz Nat)(k:Nat):aM (ds.drop k)=(aM ds).drop k:=by simp [aM,Wz3]
theorem yU (a b:pz Nat):aM (a++b)=aM a++aM b:=by simp [aM]
theorem Ó.Le.sl {V V':ut}(h:V.Le V'){a:OA}{xs:pz un}(hs:V.sl a xs):V'.sl a xs:=
 λi v b=>let ⟨ad,e,ha⟩:=hs i v b;⟨ad,e,h.at ha⟩
structure RD (V:Ó) (p:OA) (n c:Nat) (ds:List Nat):Prop where
 len:n=ds.length
 cap:n<=c
 sl:V.sl p (aM ds)
 gx:cV ds
 JW:p.isNone=true->c=0
theorem RD.le {V V':ut}(h:RD V p n c ds)(l:V.Le V'):RD V' p n c ds:=⟨h.len,h.cap,l.sl h.sl,h.gx,h.JW⟩
theorem RD.nil:RD V none 0 0 []:=⟨rfl,Ù _,λi v h=>by simp [aM] at h,cV.nil,λ_=>rfl⟩
theorem RD.take (h:RD V p n c ds){k:Nat}(hk:k<=n):RD V p k c (ds.take k):=by have:=h.len;refine ⟨by simp;omega,by have:=h.cap;omega,λi v a=>h.sl i v ?_,h.gx.take k,h.JW⟩<;>grind [Gq]
theorem RD.rd (h:RD V p n c ds){i:Int}{K:Int->Prop}(j:Nat)(hj:i=j)(hn:j<ds.length)(hK:K ((ds[j]:Nat):Int)):(p.isSome=true)/\(0<=i/\i<(n:Int))/\∃x:Int,(∃a,ae p (i.toNat*1)=some a/\V.at a (Ô .u32 x))/\K x:=by have ⟨b,e,d⟩:=h.sl j _ (iV hn);have:=h.len;subst hj;refine ⟨by rw [e];rfl,⟨ω,ω⟩,_,⟨b.add j,?_,d⟩,hK⟩;rw [e];simp [ae]
theorem dL {b:Nat}{xs:pz un}{ty:TypeId}{m:Nat×Nat}(h:V.bg b (.cells xs.toArray ty m)){i:Nat}{v:un}(hv:xs[i]?=some v):V.at ⟨b,i,none⟩ v:=by refine ⟨h.1,?_⟩;unfold World.cell?;rw [h.2];simpa using hv
theorem add_zero' (b i:Nat):(⟨b,0,none⟩:Addr).add i=⟨b,i,none⟩:=by unfold Addr.add;split;{rename_i h;simp_all};{simp}
theorem RD.bg {b:Nat}{ds:pz Nat}{ty:TypeId}{m:Nat×Nat}(h:V.bg b (.cells (aM ds).toArray ty m))(hd:cV ds)(hn:n=ds.length)(hc:n<=c):RD V (some ⟨b,0,none⟩) n c ds:=
 ⟨hn,hc,λi v a=>⟨_,rfl,by rw [add_zero'];exact dL h a⟩,hd,λe=>nomatch e⟩
end Go.Eng
namespace Go.Proofs.Tryz
open Go.Eng Go.Big
variable{V:Ó}{p q:OA}{c e m n:Nat}{ds xa xb:List Nat}
theorem br (h:RD V p n c ds)(hm:ds.length<=2^62:=by omega):À 196 #[zF p n c] V λr V'=>∃k,r=zF p k c/\RD V' p k c (dm ds):=by refine K4 V _ ?_;refine ⟨λz V'=>z.1=p/\z.2.2=c/\z.2.1<=ds.length/\dm (ds.take z.2.1)=dm ds/\RD V' p z.2.1 c (ds.take z.2.1),λz=>z.2.1,⟨(p,n,c),⟨rfl,rfl,rfl⟩,rfl,rfl,?_⟩,?_⟩;{have:=h.len;subst this;simp;exact h};{rintro ⟨q,k,i⟩ l m ⟨rfl,rfl,j,e,d⟩;dsimp only at j e d ⊢;refine ⟨rfl,λa=>?_,λa=>?_⟩;{have a:0<k:=by{simpa using a};simp (disch:=omega) only [au];have o:(ds.take k).length=k:=by{simp;omega};have f:ds.take k=ds.take (k-1)++[ds[k-1]]:=by{rw [<-Qz1 ω,Qm4 a]};refine d.rd (k-1) ω ω ⟨λb=>?_,λb=>?_⟩;{have b:ds[k-1]=0:=by{simpa using b};refine ⟨⟨ω,by have:=d.cap;omega⟩,(q,k-1,i),by dsimp only;omega,⟨rfl,by dsimp only;omega,rfl⟩,rfl,rfl,by dsimp only;omega,?_,?_⟩;{dsimp only;rw [<-e,f,b,kh]};{have:=d.take (k:=k-1) ω;dsimp only;rwa [Qt6,ģ ω] at this}};{have b:ds[k-1]≠0:=by{simpa using b};refine λV2 g=>⟨k,rfl,?_⟩;rw [<-e,f,ui _ _ b,<-f];exact d.le g}};{have a:k=0:=by{simpa using a};subst a;refine λV2 g=>⟨0,rfl,?_⟩;rw [<-e];exact d.le g}}
theorem qe (h:RD V p n c ds)(hm:ds.length<=2^40:=by omega):À 226 #[zF p n c] V λr V'=>∃q k c',r=zF q k c'/\RD V' q k c' ds:=by have g:=h.len;refine Ak V _ ⟨λf m o=>⟨_,_,_,rfl,?_⟩,λf=>⟨aM ds,h.sl,by simp [g],ω,ω,ψ,by simp [g],?_,?_⟩⟩;{have f:p=none:=by{simpa using f};subst f;have:ds=[]:=by{rcases Ĳ ds.length with e|e;{exact ĕ.1 e};{obtain ⟨s,e,-⟩:=h.sl 0 _ (iV e);cases e}};subst this;exact RD.nil};{intro v a;simp only [aM,ò] at a;obtain ⟨d,-,rfl⟩:=a;rfl};{intro t J sp c' j u m o b l;refine ⟨_,_,_,rfl,?_⟩;simp only [ą,Ō,Qd4,ō] at l j ⊢;exact ⟨g,j,λi v a=>⟨_,rfl,by rw [add_zero'];exact dL l (by rw [Ī (by rcases ĉ i (aM ds).length with e|e;exact e;rw [Ņ e] at a;cases a)];exact a)⟩,h.gx,λe=>nomatch e⟩}
abbrev RN (V:Ó)(p:OA)(n c:Nat)(x:Nat):Prop:=RD V p n c (ah x)
theorem k_ (h:RD V p n c ds)(hm:ds.length<=2^40):À 195 #[zF p n c] V λr V'=>∃q k c',r=zF q k c'/\RN V' q k c' (val ds):=by refine KZ V _ λg a=>(br (h.le a)).s ?_;rintro r V2 i ⟨k,rfl,b⟩;refine ⟨_,_,_,rfl,λj d=>(qe (b.le d) (by have:=nU ds;omega)).s ?_⟩;rintro r l m ⟨q,o,c',rfl,e⟩;refine ⟨_,_,_,rfl,λs f=>⟨_,_,_,rfl,?_⟩⟩;unfold RN;rw [<-aZ h.gx];exact e.le f
theorem uJ (h:RD V p n c ds)(hm:ds.length<=2^40):À 142 #[zF p n c] V λr V'=>r=dB (decide (ah (val ds)=ds)):=by have d:=h.len;refine EJ V _ ⟨λa e f=>?_,λa=>?_⟩;{have:ds=[]:=ĕ.1 (by simp at a;omega);subst this;rfl};{have a:0<n:=by{simp at a;omega};simp (disch:=omega) only [au];refine h.rd (n-1) ω ω λe f=>?_;congr 1;rw [Ģ];simp only [bne_iff_ne,ne_eq,Ñ];subst d;constructor;{intro b;exact BB h.gx (JY λ_=>by simpa using b)};{intro he b;have:yZ ds:=by{rw [<-he];exact lE _};exact this.last ω (by simpa using b)}}
theorem fI (u:Int)(h0:0<=u)(h1:u<18446744073709551616:=by omega):À 197 #[Ô .u64 u] V λr V'=>∃q k c',r=zF q k c'/\RN V' q k c' u.toNat:=by obtain ⟨u,rfl⟩:=Ċ h0;refine z_ V _ ⟨ω,λe h f a=>?_⟩;rw [vP,kM,vV ω] at a;have a:e.bg f (.cells (aM [u%4294967296,u/4294967296]).toArray 231 (0,0)):=by{simpa [aM] using a};have d:cV [u%4294967296,u/4294967296]:=by{simp [cV];omega};refine (br (RD.bg a d (n:=2) (c:=2) rfl (Ù _)) ψ).s ?_;rintro r V2 i ⟨k,rfl,b⟩;refine ⟨_,_,_,rfl,λ_ j g=>⟨_,_,_,rfl,?_⟩⟩;rw [aZ d] at b;have:val [u%4294967296,u/4294967296]=(u:Int).toNat:=by{simp;omega};rw [this] at b;exact b.le g
theorem Fs (ha:RD V p n c xa)(hb:RD V q m e xb)(hm:xa.length<=2^40)(hn:xb.length<=2^40:=by omega):À 225 #[zF p n c,zF q m e] V λr V'=>r=Ô .i64 (nt (val xa) (val xb)):=by have la:=nU xa;have lb:=nU xb;refine Nk V _ λJ w=>(br (ha.le w)).s ?_;rintro r V2 D ⟨n,rfl,g⟩;refine ⟨_,_,_,rfl,λK A=>(br (hb.le (w.m (D.m A)))).s ?_⟩;rintro r L E ⟨m,rfl,j⟩;refine ⟨_,_,_,rfl,?_⟩;replace g:=g.le (A.m E);rw [aZ ha.gx] at g la;rw [aZ hb.gx] at j lb;generalize val xa=x at *;generalize val xb=y at *;have F:=g.len;have G:=j.len;refine ⟨λh=>⟨λd B C=>?_,λd B C=>?_⟩,λh=>?_⟩;{have:=nM (a:=x) (b:=y) (by simp at d;omega);rw [nt,Ä this]};{have:=nM (a:=y) (b:=x) (by simp at h d;omega);rw [nt,Ã ω,Ä this]};{have h:n=m:=by{simp at h;omega};subst h;simp (disch:=omega) only [au];refine ⟨λz V'=>-1<=z/\z<n/\(ah x).drop (z+1).toNat=(ah y).drop (z+1).toNat,λz=>(z+1).toNat,⟨_,η,ω,ω,?_⟩,?_⟩;{(try dsimp only);rw [Ĺ ω,Ĺ ω]};{rintro i M k ⟨o,s,t⟩;dsimp only at o s t ⊢;refine ⟨θ,λd=>?_,λd B C=>?_⟩;{have d:0<=i:=by{simpa using d};obtain ⟨i,rfl⟩:=Ċ d;simp (disch:=omega) only [au];have f:(ah x).drop (i+1)=(ah y).drop (i+1):=t;refine (g.le k).rd i rfl ω ((j.le k).rd i rfl ω ⟨λu H I=>?_,λu=>?_⟩);{have:=mD (aN x) ω ω f (by simpa using u);rw [af,af] at this;rw [nt,Ä this]};{refine (g.le k).rd i rfl ω ((j.le k).rd i rfl ω ⟨λv H I=>?_,λv=>?_⟩);{have:=mD (aN y) ω ω f.symm (by simpa using v);rw [af,af] at this;rw [nt,Ã ω,Ä this]};{refine ⟨_,?_,η,?_,?_,?_⟩;{(try dsimp only);omega};{(try dsimp only);omega};{(try dsimp only);omega};{(try dsimp only);have:((i:Int)-1+1).toNat=i:=ω;rw [this,Ħ ω,Ħ (l:=ah y) ω,f];congr 1;simp at u v;omega}}}};{have d:i=-1:=by{simp at d;omega};subst d;have:ah x=ah y:=by{simpa using t};have:=uY this;subst this;simp [nt]}}}
theorem AZ {E A B c d x y W:Nat}(h:E+W*c=A+B)(hd:d=c+x+y:=by omega):E+W*(d%4294967296)+W*4294967296*(d/4294967296)=A+W*x+(B+W*y):=by have a:W*(d%4294967296)+W*4294967296*(d/4294967296)=W*d:=by{rw [Ŀ,<-ī,Qg9]};rw [Ň,a,hd,ī,ī];omega
theorem Pt (ha:RD V p n c xa)(hb:RD V q m e xb)(hm:xa.length<=2^40)(hn:xb.length<=2^40):À 282 #[zF p n c,zF q m e] V λr V'=>∃p' n' c',r=zF p' n' c'/\RN V' p' n' c' (val xa+val xb):=by
 have B:=ha.len;have C:=hb.len;refine Nj V _ ⟨λz V'=>∃xs b,RD V' z.1 z.2.1 z.2.2.1 xs/\RD V' z.2.2.2.1 z.2.2.2.2.1 z.2.2.2.2.2 b/\b.length<=xs.length/\xs.length<=2^40/\val xs+val b=val xa+val xb,⟨λD=>?_,λD=>?_⟩,?_⟩
 ·exact ⟨(_,_,_,_,_,_),η,xb,xa,hb,ha,by simp at D;omega,hn,ω⟩
 ·exact ⟨(_,_,_,_,_,_),η,xa,xb,ha,hb,by simp at D;omega,hm,rfl⟩
 ·rintro ⟨p,n,c,q,m,e⟩ O P ⟨xs,b,x,A,Q,hm,h⟩;dsimp only at x A ⊢;rw [<-h];clear h ha hb B C;have L:=x.len;have R:=A.len;simp (disch:=omega) only [au,dZ];have E:((n:Int)+1).toNat=n+1:=ω
  rw [E]
  refine ⟨θ,ω,ω,ω,λz V'=>0<=z.1/\z.1<=1/\0<=z.2.1/\z.2.1<=n/\∃es:pz Nat,z.2.2=aM es/\es.length=n+1/\cV es /\
   val (es.take z.2.1.toNat)+4294967296^z.2.1.toNat*z.1.toNat=val (xs.take z.2.1.toNat)+val (b.take z.2.1.toNat),λz=>n-z.2.1.toNat,⟨(0,0,aM (List.replicate (n+1) 0)),η,by (try dsimp only);omega,by (try dsimp only);omega,by (try dsimp only);omega,by (try dsimp only);omega,_,rfl,ψ,cV.rep _,ψ⟩,?_⟩
  rintro ⟨f,i,S⟩ V2 K ⟨o,F,s,G,es,rfl,H,t,h⟩;dsimp only at o F s G h ⊢;obtain ⟨i,rfl⟩:=Ċ s;obtain ⟨f,rfl⟩:=Ċ o;simp only [Ý] at h;refine ⟨θ,λl=>?_,λl=>?_⟩
  ·have l:i<n:=by simpa using l
   refine (x.le K).rd i rfl ω ?_;have T:=x.gx.get (i:=i) ω
   have next:∀d:Nat,d<8589934592->val (es.take i)+4294967296^i*(d%4294967296)+4294967296^i*4294967296*(d/4294967296)=val (xs.take (i+1))+val (b.take (i+1)) ->
     ∃a:pz Nat,(aM es).set i (Ô .u32 ((d%4294967296:Nat):Int))=aM a/\a.length=n+1/\cV a /\
     val (a.take (i+1))+4294967296^(i+1)*(d/4294967296)=val (xs.take (i+1))+val (b.take (i+1)):=by
    intro d U he;refine ⟨es.set i (d%4294967296),bT _ _ _,by simpa using H,t.set _ _ ω,?_⟩;rw [aV _ _ _,Ĝ];exact he
   refine ⟨λg=>?_,λg=>?_⟩
   ·have g:i<m:=by{simpa using g};refine (A.le K).rd i rfl ω ?_;have M:=A.gx.get (i:=i) ω;simp (disch:=omega) only [bj,au,kM,vP];refine ⟨⟨ω,ω⟩,by simp;omega,ω,(_,_,_),?_,η,?_⟩;{(try dsimp only);omega};{(try dsimp only);have j:((i:Int)+1).toNat=i+1:=ω;have ⟨a,u,v,I,J⟩:=next (f+xs[i]+b[i]) ω (by rw [aA _ _,aA _ _];exact AZ h rfl);refine ⟨ω,ω,ω,ω,a,?_,v,I,?_⟩;{rw [<-u];simp};{rw [j,<-J];congr 2}}
   ·have g:m<=i:=by simpa using g
    simp (disch:=omega) only [bj,au,kM,vP];refine ⟨⟨ω,ω⟩,by simp;omega,ω,(_,_,_),?_,η,?_⟩
    ·(try dsimp only);omega
    ·(try dsimp only)
     have j:((i:Int)+1).toNat=i+1:=ω
     have ⟨a,u,v,I,J⟩:=next (f+xs[i]) ω (by
      rw [aA _ _,ao (ds:=b) (i:=i+1)];have:=AZ (y:=0) h (d:=f+xs[i]) rfl
      rwa [ao (ds:=b),ħ,Ę] at this)
     refine ⟨ω,ω,ω,ω,a,?_,v,I,?_⟩
     ·rw [<-u];simp
     ·rw [j,<-J];congr 2
  ·have l:i=n:=by{simp at l;omega};subst l;simp (disch:=omega) only [vV];refine ⟨⟨ω,ω⟩,by simp;omega,λW X Y hb=>?_⟩;have u:(aM es).set (0+((i:Int).toNat)*1) (Ô .u32 (f:Int))=aM (es.set i f):=by{rw [<-bT];simp};rw [u] at hb;have w:=t.set i f ω;refine (br (RD.bg hb w (n:=i+1) (c:=i+1) (by simp;omega) (Ù _)) (by simp;omega)).s ?_;rintro r Z l4 ⟨k,rfl,g⟩;refine ⟨_,_,_,rfl,λ_ V5 N=>⟨_,_,_,rfl,?_⟩⟩;rw [aZ w] at g;have v:val (es.set i f)=val xs+val b:=by{have:=aV es i f;rw [ao (by simp;omega)] at this;rw [this,h,ao,ao]};rw [v] at g;exact g.le N
theorem UP {E A B x y W:Nat}(h:E+B=A+W*c){v:Int}(hc:c<=1)(hx:x<4294967296)(hy:y<4294967296)(hv:v=((x:Int)-(c+y))%18446744073709551616):0<=v/\v/9223372036854775808<=1/\0<=v/9223372036854775808/\E+W*(v%4294967296).toNat+(B+W*y)=A+W*x+W*4294967296*(v/9223372036854775808).toNat:=by rcases ĉ x (c+y) with d|d;{have e:v=18446744073709551616+(x:Int)-(c+y):=ω;have a:(v/9223372036854775808).toNat=1:=ω;have b:(v%4294967296).toNat+(c+y)=x+4294967296:=ω;refine ⟨ω,ω,ω,?_⟩;rw [a,Ē];have:=Æ (W*·) b;simp only [ī] at this;omega};{have e:v=(x:Int)-(c+y):=ω;have a:(v/9223372036854775808).toNat=0:=ω;have b:(v%4294967296).toNat+(c+y)=x:=ω;refine ⟨ω,ω,ω,?_⟩;rw [a,ħ,Ę];have:=Æ (W*·) b;simp only [ī] at this;omega}
theorem LQ {xs ys:pz Nat}(hx:RD V p n c xs)(hy:RD V q m e ys)(hm:xs.length<=2^40)(hl:ys.length<=xs.length)(hle:val ys<=val xs):À 288 #[zF p n c,zF q m e] V λr V'=>∃p' n' c',r=zF p' n' c'/\RN V' p' n' c' (val xs-val ys):=by
 have D:=hx.len;have O:=hy.len
 refine K1 V _ ⟨ω,ω,ω,λz V'=>0<=z.1/\z.1<=1/\0<=z.2.1/\z.2.1<=n/\∃es:pz Nat,z.2.2=aM es/\es.length=n/\cV es /\
   val (es.take z.2.1.toNat)+val (ys.take z.2.1.toNat)=val (xs.take z.2.1.toNat)+4294967296^z.2.1.toNat*z.1.toNat,λz=>n-z.2.1.toNat,
   ⟨(0,0,List.replicate n (Ô .u32 0)),η,by (try dsimp only);omega,by (try dsimp only);omega,by (try dsimp only);omega,by (try dsimp only);omega,List.replicate n 0,dZ n,ψ,cV.rep _,ψ⟩,?_⟩
 rintro ⟨j,i,P⟩ V2 B ⟨l,u,o,w,es,rfl,d,a,s⟩;dsimp only at l u o w s ⊢;obtain ⟨i,rfl⟩:=Ċ o;obtain ⟨j,rfl⟩:=Ċ l;simp only [Ý] at s;refine ⟨θ,λf=>?_,λf=>?_⟩
 ·have f:i<n:=by{simpa using f};refine (hx.le B).rd i rfl ω ?_;have E:=hx.gx.get (i:=i) ω;refine ⟨λz V'=>∃y:Nat,z=j+y/\y<4294967296/\val (ys.take (i+1))=val (ys.take i)+4294967296^i*y,⟨λb=>?_,λb=>?_⟩,?_⟩;{have b:i<m:=by{simpa using b};refine (hy.le B).rd i rfl ω ?_;have g:=hy.gx.get (i:=i) ω;simp (disch:=omega) only [bj];exact ⟨_,η,ys[i],rfl,g,aA _ _⟩};{have b:m<=i:=by{simpa using b};exact ⟨_,η,0,ψ,ω,by rw [ao,ao];simp⟩};{rintro t F G ⟨y,rfl,g,x⟩;refine ⟨θ,⟨ω,by simpa using f⟩,by simp;omega,ω,?_⟩;simp (disch:=omega) only [bj,au,zM,kM,UF];obtain ⟨v,C⟩:∃v:Int,v=((xs[i]:Int)-((j:Int)+(y:Int)))%18446744073709551616:=⟨_,rfl⟩;obtain ⟨Q,H,I,J⟩:=UP s ω E g C;rw [<-C];refine ⟨(_,_,_),?_,η,?_⟩;{(try dsimp only);omega};{(try dsimp only);have A:((i:Int)+1).toNat=i+1:=ω;refine ⟨I,H,ω,ω,es.set i (v%4294967296).toNat,?_,by simpa using d,a.set _ _ ω,?_⟩;{rw [<-bT];congr 2;{simp};{omega}};{rw [A,aV _ _ _,x,J,aA _ _,Ĝ]}}}
 ·have f:i=n:=by{simp at f;omega};subst f;intro F G R K;refine (br (RD.bg K a (n:=i) (c:=i) d.symm (Ù _))).s ?_;rintro r S T ⟨k,rfl,b⟩;refine ⟨_,_,_,rfl,λ_ U L=>⟨_,_,_,rfl,?_⟩⟩;rw [aZ a] at b;rw [ao,ao,ao] at s;have M:=iX a;rw [d] at M;have N:j=0:=by{rcases Ĳ j with h|h;{exact h};{have:4294967296^i*1<=4294967296^i*j:=Ł _ h;omega}};subst N;rw [show val es=val xs-val ys from ω] at b;exact b.le L
theorem iL {a b:Nat}:nt a b<0↔a<b:=by unfold nt;split;{simp;omega};{split<;>simp<;>omega}
theorem nu {a b:Nat}:nt a b=0↔a=b:=by unfold nt;split;{simp;omega};{split;{simp;omega};{simp;omega}}
theorem Fu (ha:RD V p n c xa)(hb:RD V q m e xb)(hm:xa.length<=2^40)(hn:xb.length<=2^40):À 283 #[zF p n c,zF q m e] V λr V'=>∃p' n' c',r=tN #[zF p' n' c',dB (decide (val xb<=val xa))]/\RN V' p' n' c' (val xa-val xb):=by refine Nq V _ λu b=>(Fs (ha.le b) (hb.le b) hm hn).s ?_;rintro r V2 f rfl;refine ⟨_,rfl,λa l d=>?_,λa l d=>?_⟩;{have a:val xa<val xb:=by{simpa [iL] using a};rw [Nat.sub_eq_zero_of_le ω,È ω];exact ⟨_,_,_,rfl,RD.nil⟩};{have a:val xb<=val xa:=by{simpa [<-Ww1,iL] using a};rw [Ç a];refine (br ((ha.le b).le (f.m d))).s ?_;rintro r v o ⟨w,rfl,g⟩;refine ⟨_,_,_,rfl,λx h=>(br ((hb.le b).le (f.m (d.m (o.m h))))).s ?_⟩;rintro r y s ⟨z,rfl,i⟩;rw [aZ ha.gx] at g;rw [aZ hb.gx] at i;have:=bo ha.gx;refine ⟨_,_,_,rfl,λA j=>(LQ (g.le (h.m (s.m j))) (i.le j) ω (aO a) (by rw [af,af];exact a)).s ?_⟩;rintro r B C ⟨p',n',c',rfl,k⟩;rw [af,af] at k;exact ⟨_,_,_,rfl,λD t=>⟨_,_,_,rfl,k.le t⟩⟩}
end Go.Proofs.Tryz
namespace Go.Proofs.Tryz
open Go.Eng Go.Shelf
def wD {k : Nat}{f B : Func}(h : prog.funcs[k]? = some f)(hn : (f.name == "runtime.NumGoroutine") = false := by kernel_rfl)(e : f = { B with name := f.name } := by kernel_rfl) : Bears prog k B := ⟨_, hn, h.m (Æ some e)⟩
def Pk {k:Nat}{f B:Func}(h:prog.funcs[k]?=some f)(e:f=B:=by kernel_rfl):prog.funcs[k]?=some B:=h.m (Æ some e)
abbrev layL:Ren:=⟨λ|6=>165|15=>206|14=>205|28=>246|29=>247|20=>238|21=>239|22=>240|23=>241|24=>242|25=>243|26=>244|27=>245|46=>273|47=>274|48=>275|49=>276|50=>277|57=>287|n=>n,λ|22=>193|24=>97|25=>258|3=>3|39=>232|0=>0|53=>231|55=>230|4=>4|46=>335|45=>334|50=>339|5=>5|9=>9|66=>357|70=>361|76=>371|77=>372|n=>n,λn=>n⟩
def Gd:SlLaysF0.n6 prog layL:=
 ⟨ζ,wD func165,wD func205,Pk func206,wD func238,wD func239,wD func240,wD func241,wD func242,wD func243,wD func244,wD func245,Pk func246,Pk func247,wD func273,Pk func274,Pk func275,wD func276,wD func277,wD func287,underlying0,isAgg0,sizeOf0,zeroValue0,underlying3,isAgg3,sizeOf3,zeroValue3,underlying4,isAgg4,sizeOf4,zeroValue4,underlying5,isAgg5,sizeOf5,zeroValue5,underlying9,isAgg9,sizeOf9,zeroValue9,underlying193,isAgg193,sizeOf193,zeroValue193,underlying258,isAgg258,sizeOf258,zeroValue258,underlying232,isAgg232,sizeOf232,zeroValue232,underlying334,isAgg334,sizeOf334,zeroValue334,underlying335,isAgg335,sizeOf335,zeroValue335,underlying339,isAgg339,sizeOf339,zeroValue339,underlying231,isAgg231,sizeOf231,zeroValue231,underlying230,isAgg230,sizeOf230,zeroValue230,underlying357,isAgg357,sizeOf357,zeroValue357,underlying361,isAgg361,sizeOf361,zeroValue361,underlying371,isAgg371,sizeOf371,zeroValue371,underlying372,isAgg372,sizeOf372,zeroValue372⟩
def aggL:∀w,(isAgg (layL.t 24)).run prog w=.ok true w:=isAgg97
def sizL:∀w,(Go.sizeOf (layL.t 24)).run prog w=.ok 9 w:=sizeOf97
abbrev layC:Ren:=⟨λ|6=>202|15=>206|14=>237|28=>246|29=>247|20=>265|21=>266|22=>267|23=>268|24=>269|25=>270|26=>271|27=>272|46=>284|47=>274|48=>275|49=>285|50=>286|57=>289|n=>n,λ|22=>299|24=>302|25=>304|3=>3|39=>232|0=>0|53=>231|55=>230|4=>4|46=>335|45=>334|50=>339|5=>5|9=>9|66=>357|70=>361|76=>371|77=>372|n=>n,λn=>n⟩
def Gc:SlLaysF0.n6 prog layC:=
 ⟨ζ,wD func202,wD func237,Pk func206,wD func265,wD func266,wD func267,wD func268,wD func269,wD func270,wD func271,wD func272,Pk func246,Pk func247,wD func284,Pk func274,Pk func275,wD func285,wD func286,wD func289,underlying0,isAgg0,sizeOf0,zeroValue0,underlying3,isAgg3,sizeOf3,zeroValue3,underlying4,isAgg4,sizeOf4,zeroValue4,underlying5,isAgg5,sizeOf5,zeroValue5,underlying9,isAgg9,sizeOf9,zeroValue9,underlying299,isAgg299,sizeOf299,zeroValue299,underlying304,isAgg304,sizeOf304,zeroValue304,underlying232,isAgg232,sizeOf232,zeroValue232,underlying334,isAgg334,sizeOf334,zeroValue334,underlying335,isAgg335,sizeOf335,zeroValue335,underlying339,isAgg339,sizeOf339,zeroValue339,underlying231,isAgg231,sizeOf231,zeroValue231,underlying230,isAgg230,sizeOf230,zeroValue230,underlying357,isAgg357,sizeOf357,zeroValue357,underlying361,isAgg361,sizeOf361,zeroValue361,underlying371,isAgg371,sizeOf371,zeroValue371,underlying372,isAgg372,sizeOf372,zeroValue372⟩
def aggC:∀w,(isAgg (layC.t 24)).run prog w=.ok true w:=isAgg302
def sizC:∀w,(Go.sizeOf (layC.t 24)).run prog w=.ok 5 w:=sizeOf302
abbrev To:Ren:=⟨λ|133=>222|128=>246|n=>n,λ|51=>231|3=>3|4=>4|46=>232|5=>5|9=>9|n=>n,λn=>n⟩
def JS:Lays.n133 prog To:=
 ⟨ζ,Pk func246,Pk func222,underlying3,isAgg3,sizeOf3,zeroValue3,underlying4,isAgg4,sizeOf4,zeroValue4,underlying5,isAgg5,sizeOf5,zeroValue5,underlying9,isAgg9,sizeOf9,zeroValue9,underlying232,isAgg232,sizeOf232,zeroValue232,underlying231,isAgg231,sizeOf231,zeroValue231⟩
abbrev Qm:Ren:=⟨λ|264=>280|n=>n,λ|53=>230|46=>232|n=>n,λn=>n⟩
def F2:Lays.n264 prog Qm:=
 ⟨ζ,Pk func280,underlying232,isAgg232,sizeOf232,zeroValue232,underlying230,isAgg230,sizeOf230,zeroValue230⟩
end Go.Proofs.Tryz
namespace Go.Big
def dK (n:Nat):Nat:=if n=0 then 0 else n.log2+1
def vt (n:Nat):n<2^dK n:=by unfold dK;split;{subst_vars;decide};{exact Nat.lt_log2_self}
def AA {n:Nat}(h:n≠0):2^(dK n-1)<=n:=by unfold dK;rw [Ã h];exact Nat.log2_self_le h
def IP {n b:Nat}(h0:n<2^b)(h1:b=0\/2^(b-1)<=n):dK n=b:=by rcases h1 with h1|h1;{subst h1;have:n=0:=by{simpa using h0};subst this;rfl};{have a:n≠0:=by{have:=İ (b-1);omega};have c:=vt n;have d:=AA a;have e:¬dK n<b:=λh=>by{have:=Į (n:=2) ω (show dK n<=b-1 by omega);omega};have f:¬b<dK n:=λh=>by{have:=Į (n:=2) ω (show b<=dK n-1 by omega);omega};omega}
def jB {n b:Nat}:dK n<=b↔n<2^b:=by constructor;{intro h;exact ĳ (vt n) (Į ω h)};{intro h;rcases ĉ b (dK n) with a|a;{have c:n≠0:=by{intro e;subst e;simp [dK] at a};have:=AA c;have:=Į (n:=2) ω (show b<=dK n-1 by omega);omega};{exact a}}
end Go.Big
namespace Go.Proofs.Tryz
open Go.Eng Go.Big Go.Proofs Go.Shelf
variable{V:Ó}
theorem jU (a k:Nat):((a:Nat):Int).fdiv (2^k)=((a/2^k:Nat):Int):=χ
theorem E9 {f:FuncId}{args:Array un}{V:ut}{v:un}(hc:iG prog f)(h:Calls prog f args V.w λe w'=>e=.returned v/\w'=V.w):À f args V λr _=>r=v:=
 ⟨hc,h.s λe w' ⟨a,b⟩=>by subst b;exact ⟨v,a,kq.refl _ _,rfl⟩⟩
theorem lt_bl:∀x:Nat,x<2^64->x<2^Lib.bitLen x:=by
 intro x
 induction x using Nat.strongRecOn<;>grind [Lib.bitLen_half]
theorem bl_eq {x:Nat}(h:x<2^64:=by omega):Lib.bitLen x=dK x:=
 Nat.le_antisymm (Lib.bitLen_le x _ (jB.2 h) (vt x)) (jB.2 (lt_bl x h))
theorem je (x:Nat)(hx:x<4294967296):À 222 #[Ô .u32 (x:Int)] V λr V'=>r=Ô .i64 (32-(dK x:Int)):=by have h:=E9 (V:=V) ⟨_,JS.f133,rfl,ζ⟩ (Any.bits_LeadingZeros32 JS (x:Int) V.w ω ω);rw [Ý,bl_eq] at h;exact h
theorem and64 (a:Nat)(ha:a<18446744073709551616:=by omega):cg .and .u64 (a:Int) 4294967295=((a%4294967296:Nat):Int):=by rw [cg,zM];have b:(BitVec.ofInt IntKind.u64.bits ((a:Nat):Int) &&& BitVec.ofInt IntKind.u64.bits 4294967295).toNat=a%4294967296:=by{show (BitVec.ofInt 64 ((a:Nat):Int) &&& BitVec.ofInt 64 ((4294967295:Nat):Int)).toNat=_;rw [ř,ř,BitVec.toNat_and,Ŕ,Ŕ,ĝ ω,ĝ ω];have:=Nat.and_two_pow_sub_one_eq_mod a 32;exact this};omega
theorem VQ (x y:Nat)(hx:x<18446744073709551616)(hy:y<18446744073709551616:=by omega):À 280 #[Ô .u64 (x:Int),Ô .u64 (y:Int)] V λr V'=>r=tN #[Ô .u64 ((x*y/18446744073709551616:Nat):Int),Ô .u64 ((x*y%18446744073709551616:Nat):Int)]:=
 E9 (V:=V) ⟨_,F2.f264,rfl,ζ⟩ (Any.bits_Mul64 F2 x y hx hy V.w)
theorem VM (x y c:Nat)(hx:x<4294967296)(hy:y<4294967296)(hc:c<4294967296:=by omega):À 219 #[Ô .u32 (x:Int),Ô .u32 (y:Int),Ô .u32 (c:Int)] V λr V'=>r=tN #[Ô .u32 (((x+y+c)%4294967296:Nat):Int),Ô .u32 (((x+y+c)/4294967296:Nat):Int)]:=by refine um V _ ⟨ω,λd e=>?_⟩;simp (disch:=omega) only [bj,kM,vP];have a:((x:Int)+y+c)%4294967296=(((x+y+c)%4294967296:Nat):Int):=ω;have b:((x:Int)+y+c)/4294967296%4294967296=(((x+y+c)/4294967296:Nat):Int):=ω;rw [a,b]
end Go.Proofs.Tryz
namespace Go.Proofs.Tryz
open Go.Eng Go.Big
variable{V:Ó}{p:OA}{c n r:Nat}{ds:List Nat}
theorem T4 (a b:Nat)(ha:a<4294967296)(hb:b<4294967296):cg .or .u64 (b:Int) ((a:Int)*4294967296)=(b:Int)+(a:Int)*4294967296:=by have h:cg .or .u64 (b:Int) ((a:Int)*4294967296)=cg .or .u64 ((a:Int)*4294967296) (b:Int):=by{simp only [cg,BitVec.or_comm]};rw [h,Ka a b ha hb];omega
theorem or64z (b:Nat)(hb:b<4294967296):cg .or .u64 0 (b:Int)=b:=by have:=Ka 0 b ω hb;simpa using this
theorem oz (h:RD V p n c ds)(hm:ds.length<=2^40:=by omega):À 193 #[zF p n c] V λr V'=>r=tN #[Ô .u64 ((if val ds<18446744073709551616 then val ds else 0:Nat):Int),dB (decide (val ds<18446744073709551616))]:=by refine K0 V _ λw o=>(br (h.le o)).s ?_;rintro r V2 y ⟨n,rfl,e⟩;rw [aZ h.gx] at e;generalize val ds=x at *;have A:=e.len;have B:(ah x).length<=2↔x<18446744073709551616:=aP (k:=2);refine ⟨_,_,_,rfl,λa C D=>?_,λa=>?_⟩;{have a:¬x<18446744073709551616:=by{simp at a;omega};rw [Ã a,È a];rfl};{have l:x<18446744073709551616:=by{simp at a;omega};rw [Ä l,Ç l];have E:n<=2:=ω;refine ⟨λz V'=>0<=z.2/\z.2<=n/\z.1=(val ((ah x).take z.2.toNat):Int),λz=>n-z.2.toNat,⟨(0,0),by (try dsimp only);and_intros<;>trivial,ω,ω,ψ⟩,?_⟩;rintro ⟨u,i⟩ F q ⟨d,f,hu⟩;dsimp only at d f hu ⊢;subst hu;obtain ⟨i,rfl⟩:=Ċ d;simp only [Ý];refine ⟨θ,λb=>?_,λb G H=>?_⟩;{have b:i<n:=by{simpa using b};refine (e.le q).rd i rfl ω ?_;have m:=(aN x).get (i:=i) ω;simp (disch:=omega) only [au];refine ⟨ω,(_,_),?_,by (try dsimp only);and_intros<;>trivial,?_⟩;{(try dsimp only);omega};{(try dsimp only);refine ⟨ω,ω,?_⟩;have g:((i:Int)+1).toNat=i+1:=ω;rw [g,aA _ _];have s:i=0\/i=1:=ω;rcases s with rfl|rfl;{simp (disch:=omega) only [bj];have j:(min ((32:Int)*((0:Nat):Int)).toNat IntKind.u64.bits)=0:=φ;rw [j];simp (disch:=omega) only [bj,Int.pow_zero,Int.mul_one,Qd4,gG,Nat.pow_zero,ŋ,ą];exact or64z _ m};{have j:(min ((32:Int)*((1:Nat):Int)).toNat IntKind.u64.bits)=32:=φ;have a:0<(ah x).length:=ω;have t:(ah x).take 1=[(ah x)[0]]:=by{rw [Qz1 a];rfl};have v:((2:Int)^32)=4294967296:=φ;rw [j,t,v];simp (disch:=omega) only [bj];simp only [bO,gG,ħ,Ę];rw [T4 _ _ m ((aN x).get (i:=0) a)];omega}}};{have b:i=n:=by{simp at b;omega};subst b;rw [ao,af]}}
theorem jg (h:RD V p n c ds)(hm:ds.length<=2^40):À 189 #[zF p n c] V λr V'=>r=Ô .i64 (dK (val ds):Int):=by have k:=bo h.gx;refine KY V _ λq l=>(br (h.le l)).s ?_;rintro r V2 s ⟨n,rfl,g⟩;rw [aZ h.gx] at g;generalize val ds=x at *;have m:=g.len;refine ⟨_,_,_,rfl,λf t u=>?_,λf=>?_⟩;{have:ah x=[]:=ĕ.1 (by simp at f;omega);have:=bR.1 this;subst this;rfl};{have f:0<n:=by{simp at f;omega};simp (disch:=omega) only [au];refine g.rd (n-1) ω ω λv w=>(je _ ((aN x).get ω)).s λr y z rfl=>⟨_,rfl,λA B=>?_⟩;have C:=(aN x).get (i:=n-1) ω;have a:(ah x)[n-1]≠0:=by{have:=(lE x).last ω;simpa [m] using this};have D:dK (ah x)[n-1]<=32:=jB.2 ω;simp (disch:=omega) only [au];have key:dK x=32*(n-1)+dK (ah x)[n-1]:=by{have e:=jx (ah x) (n-1) ω;rw [af,Ĺ ω] at e;simp only [gG,ħ,Ę] at e;have b:=iX ((aN x).take (n-1));rw [é,ģ ω] at b;have j:(4294967296:Nat)^(n-1)=2^(32*(n-1)):=by{rw [Ww5]};rw [j] at e b;generalize (ah x)[n-1]=d at *;have o:0<dK d:=by{unfold dK;rw [Ã a];omega};refine IP ?_ (.inr ?_);{rw [č];have:2^(32*(n-1))*(d+1)<=2^(32*(n-1))*2^dK d:=Ł _ (vt d);rw [ī,Ē] at this;omega};{rw [show 32*(n-1)+dK d-1=32*(n-1)+(dK d-1) from ω,č];have:2^(32*(n-1))*2^(dK d-1)<=2^(32*(n-1))*d:=Ł _ (AA a);omega}};rw [key];congr 1;omega}
theorem JV {E S t x y e Y B D:Nat}(h:E+B*D*c=S+B*x*Y)(ht:t=c+x*y+e):E+B*D*(t%4294967296)+B*D*4294967296*(t/4294967296)=S+B*D*e+B*x*(Y+D*y):=by have a:B*D*(t%4294967296)+B*D*4294967296*(t/4294967296)=B*D*t:=by{rw [Ŀ (B*D),<-ī,Qg9]};rw [Ň,a,ht];grind
theorem jh {q:OA}{m e:Nat}{xa xb:pz Nat}(ha:RD V p n c xa)(hb:RD V q m e xb)(hm:xa.length+xb.length<=2^40:=by omega):À 146 #[zF p n c,zF q m e] V λr V'=>∃p' n' c',r=zF p' n' c'/\RN V' p' n' c' (val xa*val xb):=by
 have la:=bo ha.gx;have lb:=bo hb.gx;refine Nm V _ λV1 P=>(br (ha.le P)).s ?_;rintro r V2 W ⟨n,rfl,o⟩;rw [aZ ha.gx] at o;refine ⟨_,_,_,rfl,λV3 Q=>(br (hb.le (P.m (W.m Q)))).s ?_⟩;rintro r V4 X ⟨m,rfl,F⟩;rw [aZ hb.gx] at F
 replace o:=o.le (Q.m X)
 have Y:=o.len;have Lq:=F.len;have u:val xa=val (ah (val xa)):=(af _).symm;have v:val xb=val (ah (val xb)):=(af _).symm;rw [u,v];clear u v;generalize ah (val xa)=xs at *;generalize ah (val xb)=ys at *;refine ⟨_,_,_,rfl,?_⟩;simp (disch:=omega) only [au,dZ];have H:((n:Int)+m).toNat=n+m:=ω
 rw [H]
 refine ⟨ω,ω,ω,λz V'=>0<=z.1/\z.1<=n/\∃es:pz Nat,z.2=aM es/\es.length=n+m/\cV es /\
  val (es.take (z.1.toNat+m))=val (xs.take z.1.toNat)*val ys,λz=>n-z.1.toNat,⟨(0,aM (List.replicate (n+m) 0)),η,by (try dsimp only);omega,by (try dsimp only);omega,_,rfl,ψ,cV.rep _,by simp [AO,Qr4]⟩,?_⟩
 rintro ⟨i,Z⟩ V5 R ⟨w,I,es,rfl,J,g,y⟩;dsimp only at w I y ⊢;obtain ⟨i,rfl⟩:=Ċ w;simp only [Ý] at y;refine ⟨θ,λs=>?_,λs=>?_⟩
 ·have s:i<n:=by simpa using s
  refine (o.le R).rd i rfl ω ?_;have DS:=o.gx.get (i:=i) ω
  refine ⟨λz V'=>0<=z.1/\z.1<=4294967295/\0<=z.2.1/\z.2.1<=m/\∃a:pz Nat,z.2.2=aM a/\a.length=n+m/\cV a/\a.drop (i+z.2.1.toNat)=es.drop (i+z.2.1.toNat) /\
   val (a.take (i+z.2.1.toNat))+4294967296^(i+z.2.1.toNat)*z.1.toNat=val (es.take (i+z.2.1.toNat))+4294967296^i*xs[i]*val (ys.take z.2.1.toNat),λz=>m-z.2.1.toNat,
   ⟨(0,0,aM es),η,by (try dsimp only);omega,by (try dsimp only);omega,by (try dsimp only);omega,by (try dsimp only);omega,es,rfl,J,g,rfl,ψ⟩,?_⟩
  rintro ⟨G,k,Z⟩ V6 S ⟨A,K,B,L,a,rfl,C,h,f,hw⟩;dsimp only at A K B L f hw ⊢;obtain ⟨k,rfl⟩:=Ċ B;obtain ⟨G,rfl⟩:=Ċ A;simp only [Ý] at f hw;refine ⟨θ,λd=>?_,λd=>?_⟩
  ·have d:k<m:=by{simpa using d};refine (F.le (R.m S)).rd k rfl ω ?_;have a0:=F.gx.get (i:=k) ω;have T:=h.get (i:=i+k) ω;have M:a[i+k]'ω=es[i+k]'ω:=by{have U:a[i+k]?=es[i+k]?:=by{have:=Æ (λl=>l[0]?) f;simpa [Qn6] using this};rw [ô ω,ô ω] at U;exact ŏ U};simp (disch:=omega) only [au];have j:((i:Int)+k).toNat=i+k:=ω;rw [j];refine ⟨⟨ω,ω⟩,((a[i+k]'ω:Nat):Int),by rw [ą,Ē];exact iV ω,⟨ω,ω⟩,by simp;omega,ω,?_⟩;have a1:xs[i]*ys[k]<=4294967295*4294967295:=Qg3 ω ω;have D:(xs[i]:Int)*(ys[k]:Int)=((xs[i]*ys[k]:Nat):Int):=ψ;obtain ⟨t,ht⟩:∃t:Nat,t=G+xs[i]*ys[k]+a[i+k]'ω:=⟨_,rfl⟩;rw [č] at hw;have b:=JV hw ht;have e1:u64.wrap ((G:Int)+u64.wrap (u64.wrap (u64.wrap (xs[i]:Int)*u64.wrap (ys[k]:Int))+u64.wrap ((a[i+k]'ω:Nat):Int)))=(t:Int):=by{clear b;generalize xs[i]*ys[k]=pq at *;rw [bj (x:=(xs[i]:Int)) ω,bj (x:=(ys[k]:Int)) ω,D,bj (x:=((pq:Nat):Int)) ω];simp (disch:=omega) only [bj];omega};rw [e1,kM,vP];refine ⟨(_,_,_),?_,η,?_⟩;{(try dsimp only);omega};{(try dsimp only);have E:((k:Int)+1).toNat=k+1:=ω;refine ⟨ω,ω,ω,ω,a.set (i+k) (t%4294967296),?_,by simpa using C,h.set _ _ ω,?_,?_⟩;{rw [<-bT];simp};{rw [E,Qb9 ω];have:=Æ (List.drop 1) f;simpa [Qp1,Wx7,Ň,Nat.add_left_comm] using this};{rw [E,show i+(k+1)=i+k+1 from ω,aV _ _ _,aA es (i+k),aA ys k,<-M,Ĝ];have e2:((t:Int)/4294967296).toNat=t/4294967296:=ω;rw [e2,č,b]}}
  ·have d:k=m:=by{simp at d;omega};subst d;simp (disch:=omega) only [au];have j:((i:Int)+k).toNat=i+k:=ω;rw [j];refine ⟨⟨ω,ω⟩,by simp;omega,(_,_),?_,η,?_⟩;{(try dsimp only);omega};{(try dsimp only);have N:((i:Int)+1).toNat=i+1:=ω;refine ⟨ω,ω,a.set (i+k) G,?_,by simpa using C,h.set _ _ ω,?_⟩;{rw [<-bT,vV ω];simp};{rw [N,show i+1+k=i+k+1 from ω,aV _ _ _,hw,y,aA xs i,ao (ds:=ys)];grind}}
 ·have s:i=n:=by{simp at s;omega};subst s;intro V6 S bk O;refine (br (RD.bg O g (n:=i+m) (c:=i+m) ω (Ù _))).s ?_;rintro r V7 l7 ⟨k,rfl,d⟩;refine ⟨_,_,_,rfl,λ_ V8 l8=>⟨_,_,_,rfl,?_⟩⟩;rw [aZ g] at d;rw [ao,ao] at y;rw [y] at d;exact d.le l8
theorem CI {x A d q rest B W:Nat}(hA:A=d*B+rest)(h:d*q+r=rest*W+x):x+W*A=d*(q+W*B)+r:=by subst hA;grind
theorem I5 {xs:pz Nat}(hx:RD V p n c xs)(hm:xs.length<=2^40)(d:Nat)(hd0:d≠0)(hd:d<4294967296):À 227 #[zF p n c,Ô .u32 (d:Int)] V λr V'=>∃p' n' c',r=tN #[zF p' n' c',Ô .u32 ((val xs%d:Nat):Int)]/\RN V' p' n' c' (val xs/d):=by
 have w:=hx.len;refine H9 V _ ⟨ω,ω,ω,?_⟩;simp (disch:=omega) only [au,bj,Ý,dZ]
 refine ⟨λz V'=>0<=z.1/\z.1<d/\-1<=z.2.1/\z.2.1<n/\∃es:pz Nat,z.2.2=aM es/\es.length=n/\cV es /\
   val (xs.drop (z.2.1+1).toNat)=d*val (es.drop (z.2.1+1).toNat)+z.1.toNat,λz=>(z.2.1+1).toNat,
   ⟨(0,(n:Int)-1,aM (List.replicate n 0)),η,by (try dsimp only);omega,by (try dsimp only);omega,by (try dsimp only);omega,by (try dsimp only);omega,_,rfl,ψ,cV.rep _,?_⟩,?_⟩
 ·(try dsimp only);rw [Ĺ ω,Ĺ ψ];rfl
 rintro ⟨rest,i,F⟩ V2 x ⟨f,g,h,j,es,rfl,m,b,a⟩;dsimp only at f g h j a ⊢;obtain ⟨rest,rfl⟩:=Ċ f;refine ⟨θ,λe=>?_,λe=>?_⟩
 ·have e:0<=i:=by{simpa using e};obtain ⟨i,rfl⟩:=Ċ e;have o:((i:Int)+1).toNat=i+1:=ω;rw [o] at a;simp only [Ý] at a;refine ⟨ω,(hx.le x).rd i rfl ω ?_⟩;have y:=hx.gx.get (i:=i) ω;have s:cg .or .u64 (u64.wrap ((rest:Int)*2^32)) (u64.wrap ((xs[i]:Nat):Int))=((rest*4294967296+xs[i]:Nat):Int):=by{have A:((2:Int)^32)=4294967296:=φ;rw [A,bj ω,bj ω,Ka _ _ ω y];omega};rw [s];have t:((rest*4294967296+xs[i]:Nat):Int).tdiv (d:Int)=(((rest*4294967296+xs[i])/d:Nat):Int):=by{rw [Qj7 ω];omega};have B:((rest*4294967296+xs[i]:Nat):Int).tmod (d:Int)=(((rest*4294967296+xs[i])%d:Nat):Int):=by{rw [Qk6 ω];omega};rw [t,B];have G:(rest*4294967296+xs[i])/d<4294967296:=by{rw [Qb7 ω];have:rest+1<=d:=ω;have:=ÿ 4294967296 this;rw [Ķ 4294967296 d];omega};have H:(rest*4294967296+xs[i])%d<d:=Ė _ ω;have C:=Qd6 (rest*4294967296+xs[i]) d;generalize (rest*4294967296+xs[i])/d=q at *;generalize (rest*4294967296+xs[i])%d=r at *;simp (disch:=omega) only [bj,vV,au];refine ⟨ω,⟨ω,ω⟩,by simp;omega,ω,?_⟩;refine ⟨((r:Int),(i:Int)-1,aM (es.set i q)),?_,?_,?_⟩;{(try dsimp only);omega};{(try dsimp only);(and_intros<;>first|trivial|(rw [<-bT];simp))};{(try dsimp only);refine ⟨ω,ω,ω,ω,_,rfl,by simpa using m,b.set _ _ ω,?_⟩;have u:((i:Int)-1+1).toNat=i:=ω;rw [u,Ħ ω,Ħ (l:=es.set i q) (by simp;omega),Qg1,Qb9 ω];rw [bO,bO,Ý];exact (CI a C)}
 ·have e:i=-1:=by{simp at e;omega};subst e;simp only [Ý] at a;have a:val xs=d*val es+rest:=by{simpa using a};intro I J K D;refine (br (RD.bg D b (n:=n) (c:=n) ω (Ù _))).s ?_;rintro r L M ⟨k,rfl,v⟩;refine ⟨_,_,_,rfl,λ_ N E=>?_⟩;have s:val xs/d=val es:=by{rw [a,Wk6 ω,ŕ ω,Ę]};have t:val xs%d=rest:=by{rw [a,Wk7,ĝ ω]};rw [vV ω,s,t];rw [aZ b] at v;exact ⟨_,_,_,rfl,v.le E⟩
theorem MG (a b:Nat)(ha:a<4294967296)(hb:b<4294967296:=by omega):cg .or .u32 (a:Int) (b:Int)=((a ||| b:Nat):Int):=by rw [cg,kM];have c:(BitVec.ofInt IntKind.u32.bits ((a:Nat):Int) ||| BitVec.ofInt IntKind.u32.bits (b:Int)).toNat=a ||| b:=by{show (BitVec.ofInt 32 ((a:Nat):Int) ||| BitVec.ofInt 32 (b:Int)).toNat=_;rw [ř,ř,Wk5,Ŕ,Ŕ,ĝ ω,ĝ ω]};have d:a ||| b<2^32:=Wz0 ω ω;rw [c];omega
theorem or_low {m:Nat}(h:c<2^r):c ||| m*2^r=c+m*2^r:=by rw [Nat.or_comm,<-Wz9,<-Wq1 h,Wx7]
theorem Kz {d:Nat}(hd:d<4294967296)(hr:r<32)(hc:c<2^r):c ||| (d*2^r%4294967296)=c+d*2^r%4294967296/\c+d*2^r%4294967296<4294967296/\d*2^r/4294967296<2^r/\d*2^r<18446744073709551616:=by have e:4294967296=2^(32-r)*2^r:=by{rw [<-č,Qm4 ω]};have a:d*2^r%4294967296=(d%2^(32-r))*2^r:=by{rw [e,Nat.mul_mod_mul_right]};have f:d%2^(32-r)+1<=2^(32-r):=Ė _ (İ _);have b:=ÿ (2^r) f;have h:2^r<=2^31:=Į ω ω;have g:d*2^r<4294967296*2^r:=Qc7 hd (İ _);refine ⟨by rw [a,or_low hc],?_,?_,ω⟩;{rw [a];rw [đ,ŋ] at b;rw [<-e] at b;omega};{rw [Qb7 ω,Ķ (2^r)];exact g}
theorem Ft (h:RD V p n c ds)(hm:ds.length<=2^40)(k:Nat)(hk:k<=1048576:=by omega):À 254 #[zF p n c,Ô .u64 (k:Int)] V λr V'=>∃p' n' c',r=zF p' n' c'/\RN V' p' n' c' (val ds*2^k)/\(val ds=0\/c'=(ah (val ds)).length+k/32+1):=by
 have H:=bo h.gx;refine Nn V _ λY I=>(br (h.le I)).s ?_;rintro r V2 Z ⟨n,rfl,q⟩;rw [aZ h.gx] at q;generalize hxv:val ds=x at *;have hl:=q.len;refine ⟨_,_,_,rfl,λo V3 l3=>?_,λo=>?_⟩
 ·have:ah x=[]:=ĕ.1 (by simp at o;omega);have:=bR.1 this;subst this;rw [Ō];exact ⟨_,_,_,rfl,RD.nil,.inl rfl⟩
 ·have o:0<n:=by simp at o;omega
  have D:cQ (k:Int) 1048576=k:=by unfold cQ;rw [Ã ω]
  have E:(k:Int).tdiv 32=((k/32:Nat):Int):=by rw [Qj7 ω];omega
  have F:(k:Int).tmod 32=((k%32:Nat):Int):=by rw [Qk6 ω];omega
  rw [D,E,F]
  have s:x*2^k=4294967296^(k/32)*x*2^(k%32):=by have:2^k=4294967296^(k/32)*2^(k%32):=by{rw [show (4294967296:Nat)=2^32 from rfl,<-Ww5,<-č,Qd6]};rw [this];grind
  rw [s];generalize hw:k/32=w at *;have t:k%32<32:=Ė _ ω;have J:w<=32768:=ω
  generalize k%32=r at *;clear D E F;simp (disch:=omega) only [au,bj,dZ];have u:((n:Int)+w+1).toNat=n+w+1:=ω
  rw [u]
  refine ⟨ω,ω,ω,ω,ω,λz V'=>0<=z.1/\z.1<=n/\∃es:pz Nat,z.2=aM es/\es.length=n+w+1/\cV es/\(∀c,es[z.1.toNat+w]?=some c->c<2^r) /\
   val (es.take (z.1.toNat+w+1))=4294967296^w*val ((ah x).take z.1.toNat)*2^r,λz=>n-z.1.toNat,
   ⟨(0,aM (List.replicate (n+w+1) 0)),η,ω,ω,_,rfl,ψ,cV.rep _,?_,?_⟩,?_⟩
  ·intro c a;rw [Qs4] at a;split at a;{cases a;exact İ r};{cases a}
  ·simp [Qr4,AO]
  rintro ⟨i,vs⟩ V4 K ⟨f,v,es,rfl,y,b,a,d⟩;dsimp only at f v a d ⊢;obtain ⟨i,rfl⟩:=Ċ f;simp only [Ý] at a d;refine ⟨θ,λe=>?_,λe=>?_⟩
  ·have e:i<n:=by{simpa using e};refine (q.le K).rd i rfl ω ?_;have L:=(aN x).get (i:=i) ω;have A:=a (es[i+w]'ω) (ô _);have ⟨M,g2,N,g4⟩:=Kz L t A;have g:(min ((r:Nat):Int).toNat IntKind.u64.bits)=r:=by{show min _ 64=r;omega};have O:((2:Int)^r)=((2^r:Nat):Int):=ψ;rw [g,O];have hmul:(((ah x)[i]:Nat):Int)*((2^r:Nat):Int)=(((ah x)[i]*2^r:Nat):Int):=ψ;simp (disch:=omega) only [au];rw [bj (x:=(((ah x)[i]:Nat):Int)) ω,hmul,bj ω,kM,vP];have B:((i:Int)+w).toNat=i+w:=ω;have j:((i:Int)+w+1).toNat=i+w+1:=ω;rw [B,j];refine ⟨ω,⟨ω,ω⟩,((es[i+w]'ω:Nat):Int),by rw [ą,Ē];exact iV ω,⟨ω,ω⟩,by simp;omega,ω,⟨ω,ω⟩,by simp;omega,?_⟩;have P:(((ah x)[i]*2^r:Nat):Int)%4294967296=(((ah x)[i]*2^r%4294967296:Nat):Int):=ω;have Q:(((ah x)[i]*2^r:Nat):Int)/4294967296=(((ah x)[i]*2^r/4294967296:Nat):Int):=ω;rw [P,Q,MG _ _ ω,M];have R:=Qg9 ((ah x)[i]*2^r) 4294967296;have S:(ah x)[i]*2^r/4294967296<4294967296:=ω;have C:val (List.take (i+1) (ah x))=val (List.take i (ah x))+4294967296^i*(ah x)[i]:=aA _ _;have T:val (es.take (i+w+1))=val (es.take (i+w))+4294967296^(i+w)*es[i+w]'ω:=aA _ _;generalize (ah x)[i]*2^r%4294967296=lo at *;generalize hhi:(ah x)[i]*2^r/4294967296=hi at *;rw [vV ω];refine ⟨((i:Int)+1,aM ((es.set (i+w) (es[i+w]'ω+lo)).set (i+w+1) hi)),?_,?_,?_⟩;{(try dsimp only);omega};{(try dsimp only);(and_intros<;>first|trivial|(rw [<-bT,<-bT];simp))};{(try dsimp only);have l:((i:Int)+1).toNat=i+1:=ω;refine ⟨ω,ω,_,rfl,by simpa using y,(b.set _ _ ω).set _ _ ω,?_,?_⟩;{intro c m;rw [l,show i+1+w=i+w+1 from ω,Qt0 (by simp;omega)] at m;cases m;exact N};{rw [l,show i+1+w+1=i+w+1+1 from ω,aV _ _ _ (by simp;omega),aV _ _ _,C];rw [T] at d;have U:4294967296^(i+w+1)*hi=4294967296^(i+w)*(4294967296*hi):=by{rw [Ĝ];grind};rw [U,ī,<-Ň,d,Ň,<-ī,R,č];grind}}
  ·have e:i=n:=by{simp at e;omega};subst e;intro V5 l5 bk W;refine (br (RD.bg W b (n:=i+w+1) (c:=i+w+1) ω (Ù _))).s ?_;rintro r' V6 l6 ⟨k',rfl,G⟩;refine ⟨_,_,_,rfl,λ_ V7 X=>⟨_,_,_,rfl,?_,.inr ω⟩⟩;rw [ao,ao,af] at d;rw [aZ b,d] at G;exact G.le X
theorem KA {d Y r:Nat}(hd:d<4294967296)(hr:r<32):(d+4294967296*Y)/2^r=(d+4294967296*(Y%4294967296))/2^r%4294967296+4294967296*(Y/2^r):=by
 have e:4294967296=2^r*2^(32-r):=by rw [<-č,Nat.add_sub_cancel' ω]
 have c:=İ r;have k:=İ (32-r);generalize ha:2^r=a at *;generalize hb:2^(32-r)=b at *
 have f:∀Z,(d+4294967296*Z)/a=d/a+b*Z:=by intro Z;rw [e,Ŀ,Qg6 _ _ c]
 rw [f,f]
 have g:d/a<b:=by rw [Qb7 c,Ķ,<-e];exact hd
 have h:b*(Y%4294967296)%4294967296=b*(Y%a):=by rw [e,Ķ a b,Nat.mul_mod_mul_left,Nat.mod_mul_left_mod]
 have l:b*(Y%a)+b<=4294967296:=by have:Y%a+1<=a:=Ė _ c;have:=Ł b this;rw [ī,Ē,Ķ b a,<-e] at this;exact this
 have i:(d/a+b*(Y%4294967296))%4294967296=d/a+b*(Y%a):=by rw [Nat.add_mod,h,ĝ (a:=d/a) ω,ĝ ω]
 rw [i]
 have j:b*Y=b*(Y%a)+4294967296*(Y/a):=by
  conv=>lhs;rw [<-(Qg9 Y a)]
  rw [ī,<-Ŀ,Ķ b a,<-e]
 rw [j];omega
theorem vW {xs:pz Nat}(h:cV xs)(i:Nat):val (xs.drop i)%4294967296=(xs[i]?).getD 0:=by rcases ĉ i xs.length with a|a;{rw [Ħ a,bO,ô a,Qh8,Wy2,ĝ (h.get a)]};{rw [Ĺ a,Ņ a];rfl}
theorem Pu (h:RD V p n c ds)(hm:ds.length<=2^40)(k:Nat)(hk:k<18446744073709551616:=by omega):À 255 #[zF p n c,Ô .u64 (k:Int)] V λr V'=>∃p' n' c',r=zF p' n' c'/\RN V' p' n' c' (val ds/2^k):=by
 have S:=bo h.gx;refine Np V _ λV1 T=>(br (h.le T)).s ?_;rintro r V2 l2 ⟨n,rfl,B⟩;rw [aZ h.gx] at B;generalize val ds=x at *;have hl:=B.len;have P:(k:Int).tdiv 32=((k/32:Nat):Int):=by rw [Qj7 ω];omega
 have C:(k:Int).tmod 32=((k%32:Nat):Int):=by rw [Qk6 ω];omega
 refine ⟨_,_,_,rfl,?_⟩;rw [P,C]
 have q:x/2^k=x/4294967296^(k/32)/2^(k%32):=by rw [Nat.div_div_eq_div_mul,show (4294967296:Nat)=2^32 from rfl,<-Ww5,<-č,Qd6]
 rw [q];have U:k/32<576460752303423488:=ω
 generalize k/32=w at *;have E:k%32<32:=Ė _ ω;generalize k%32=r at *;clear P C q;refine ⟨ω,λj V3 l3=>?_,λj=>?_⟩
 ·have j:n<=w:=by{rw [bj ω,bj ω] at j;simp at j;omega};have:x/4294967296^w=0:=ŕ (ĳ (aP.1 (Ù _)) (Į ω ω));rw [this,Wk8];exact ⟨_,_,_,rfl,RD.nil⟩
 ·have j:w<n:=by
   rw [bj ω,bj ω] at j;simp at j;omega
  simp (disch:=omega) only [au,bj,dZ];have F:((n:Int)-w).toNat=n-w:=ω
  rw [F]
  have G:x/4294967296^w=val ((ah x).drop w):=by have e:val (ah x)=val ((ah x).take w++(ah x).drop w):=by{rw [Qv0]};have s:=iX ((aN x).take w);rw [eW,af] at e;rw [é,ģ ω] at e s;have g:∀y,y=val ((ah x).take w)+4294967296^w*val ((ah x).drop w)->y/4294967296^w=val ((ah x).drop w):=by{intro y W;rw [W,Qg6 _ _ (Ww6 ω),ŕ s,ą]};exact g x e
  rw [G]
  refine ⟨ω,ω,ω,ω,ω,λz V'=>0<=z.1/\z.1<=(n-w:Nat)/\∃es:pz Nat,z.2=aM es/\es.length=n-w/\cV es /\
   val (es.take z.1.toNat)+4294967296^z.1.toNat*(val ((ah x).drop (w+z.1.toNat))/2^r)=val ((ah x).drop w)/2^r,λz=>(n-w)-z.1.toNat,
   ⟨(0,aM (List.replicate (n-w) 0)),η,ω,ω,_,rfl,ψ,cV.rep _,ψ⟩,?_⟩
  rintro ⟨i,vs⟩ V4 Q ⟨t,H,es,rfl,I,m,b⟩;dsimp only at t H b ⊢;obtain ⟨i,rfl⟩:=Ċ t;simp only [Ý] at b;refine ⟨θ,λu=>?_,λu=>?_⟩
  ·have u:i<n-w:=by simpa using u
   simp (disch:=omega) only [au];refine (B.le Q).rd (w+i) ω ω ?_;have R:=(aN x).get (i:=w+i) ω;have v:=KA (Y:=val ((ah x).drop (w+i+1))) R E;rw [vW (aN x)] at v
   have d:(min ((r:Nat):Int).toNat IntKind.u64.bits)=r:=by show min _ 64=r;omega
   have o:val ((ah x).drop (w+i))=(ah x)[w+i]+4294967296*val ((ah x).drop (w+i+1)):=by rw [Ħ ω,bO]
   rw [o] at b;rw [v] at b
   have nxt:∀D:Nat,D=((ah x)[w+i]+4294967296*((ah x)[w+i+1]?).getD 0)/2^r%4294967296 ->
     ∃a:pz Nat,(aM es).set (0+i*1) (Ô .u32 (D:Int))=aM a/\a.length=n-w/\cV a /\
     val (a.take (i+1))+4294967296^(i+1)*(val ((ah x).drop (w+(i+1)))/2^r)=val ((ah x).drop w)/2^r:=by
    intro D X;refine ⟨es.set i D,by rw [<-bT];simp,by simpa using I,m.set _ _ ω,?_⟩;rw [aV _ _ _,<-b,X,Ĝ,ī,Ň,Ŀ,Ň w i 1]
   have A:((i:Int)+1).toNat=i+1:=ω
   refine ⟨λf=>?_,λf=>?_⟩
   ·have f:w+i+1<n:=by{simp at f;omega};refine (B.le Q).rd (w+i+1) ω ω ?_;have J:=(aN x).get (i:=w+i+1) ω;have K:cg .or .u64 (u64.wrap (((ah x)[w+i]:Nat):Int)) (u64.wrap (u64.wrap (((ah x)[w+i+1]:Nat):Int)*2^32))=(((ah x)[w+i]+4294967296*((ah x)[w+i+1]?).getD 0:Nat):Int):=by{have C:((2:Int)^32)=4294967296:=φ;rw [C,bj ω,bj (x:=(((ah x)[w+i+1]:Nat):Int)) ω,bj ω,T4 _ _ J R,ô ω,Qh8];omega};rw [K,d,jU,kM];refine ⟨ω,ω,⟨ω,ω⟩,by simp;omega,?_⟩;have ⟨a,L,M,N,O⟩:=nxt _ rfl;refine ⟨((i:Int)+1,aM a),?_,?_,?_⟩;{(try dsimp only);omega};{(try dsimp only);(and_intros<;>first|trivial|(rw [<-L];simp))};{(try dsimp only);exact ⟨ω,ω,a,rfl,M,N,by rw [A];exact O⟩}
   ·have f:n<=w+i+1:=by{simp at f;omega};have K:u64.wrap (((ah x)[w+i]:Nat):Int)=(((ah x)[w+i]+4294967296*((ah x)[w+i+1]?).getD 0:Nat):Int):=by{rw [bj ω,Ņ ω];simp};rw [K,d,jU,kM];refine ⟨ω,⟨ω,ω⟩,by simp;omega,?_⟩;have ⟨a,L,M,N,O⟩:=nxt _ rfl;refine ⟨((i:Int)+1,aM a),?_,?_,?_⟩;{(try dsimp only);omega};{(try dsimp only);(and_intros<;>first|trivial|(rw [<-L];simp))};{(try dsimp only);exact ⟨ω,ω,a,rfl,M,N,by rw [A];exact O⟩}
  ·have u:i=n-w:=by{simp at u;omega};intro V5 l5 bk Z;refine (br (RD.bg Z m (n:=n-w) (c:=n-w) ω (Ù _))).s ?_;rintro r' V6 l6 ⟨k',rfl,f⟩;refine ⟨_,_,_,rfl,λ_ V7 l7=>⟨_,_,_,rfl,?_⟩⟩;rw [ao,Ĺ (l:=ah x) (i:=w+i) ω] at b;have b:val es=val ((ah x).drop w)/2^r:=by{rw [<-b,gG,Wk8,ħ,Ę]};rw [aZ m,b] at f;exact f.le l7
end Go.Proofs.Tryz
namespace Go.Big
variable{B G T W Y t' u0 u1 u2 v' v1 v2 ρ:Nat}
theorem PX (hY:Y=(v1*W+v2)*B+v')(hT:T=((u0*W+u1)*W+u2)*B+t')(ht:t'<B)(hg:G*v1+ρ=u0*W+u1)(hd:ρ*W+u2<G*v2):T<G*Y:=by have a:(u0*W+u1)*W+u2+1<=G*(v1*W+v2):=by{grind [Nat.add_mul]};have b:=ÿ B a;have c:G*(v1*W+v2)*B<=G*Y:=by{rw [hY,Ŀ];exact Ł _ (Qr2 _ _)};rw [đ,ŋ] at b;omega
theorem FQ (hY:Y=(v1*W+v2)*B+v')(hT:T=((u0*W+u1)*W+u2)*B+t')(hv:v'<B)(hv1:1<=v1)(hW:0<W)(hg:G*v1+ρ=u0*W+u1)(hd:G*v2<=ρ*W+u2)(hG:G<=W:=by omega):G*Y<T+Y:=by have a:G*(v1*W+v2)<=(u0*W+u1)*W+u2:=by{grind [Nat.add_mul]};have b:=ÿ B a;have c:G*v'<=W*v':=ÿ _ hG;have d:=Nat.mul_lt_mul_of_pos_left hv hW;have e:W*B<=v1*W*B:=by{have:=ÿ (W*B) hv1;grind};have f:(v1*W+v2)*B=v1*W*B+v2*B:=đ _ _ _;have g:G*Y=G*(v1*W+v2)*B+G*v':=by{rw [hY,ī,Ŀ]};omega
theorem FR (hY:Y=(v1*W+v2)*B+v')(hT:T=((u0*W+u1)*W+u2)*B+t')(hv:v'<B)(h:T<W*Y):u0*W+u1<=v1*W+v2:=by rcases ĉ (v1*W+v2) (u0*W+u1) with a|a;{exfalso;have b:(v1*W+v2+1)*W<=(u0*W+u1)*W:=ÿ _ a;have c:=ÿ B b;have d:W*Y<=W*((v1*W+v2+1)*B):=by{rw [hY,đ (v1*W+v2) 1 B,ŋ];exact Ł _ ω};grind};{exact a}
theorem SQ (hY:Y=(v1*W+v2)*B+v')(hT:T=((u0*W+u1)*W+u2)*B+t')(ht:t'<B)(hu:u2<W)(hg:G*v1+ρ=u0*W+u1)(hr:ρ<v1):T<(G+1)*Y:=by have a:u0*W+u1+1<=(G+1)*v1:=by{rw [đ,ŋ];omega};have b:=ÿ (W*B) a;have c:(G+1)*v1*(W*B)<=(G+1)*Y:=by{rw [hY,Ŀ];grind};have d:((u0*W+u1)*W+u2)*B+t'<(u0*W+u1+1)*(W*B):=by{have e:(u2+1)*B<=W*B:=ÿ _ hu;grind};omega
theorem Gj {F U c b g d u Y W S:Nat}{x:Int}(h:F+W*(g*Y)=U+W*S*(c+b))(hc:c<4294967296)(hb:b<=1)(hu:u<4294967296)(hx:x=((u:Int)-((c+g*d)%4294967296:Nat)-b)%18446744073709551616):0<=x/\0<=x/9223372036854775808/\x/9223372036854775808<=1/\F+W*S*(x%4294967296).toNat+W*(g*(Y+S*d))=U+W*S*u+W*(S*4294967296)*((c+g*d)/4294967296+(x/9223372036854775808).toNat):=by have k:=Qg9 (c+g*d) 4294967296;have hm:(c+g*d)%4294967296<4294967296:=Ė _ ω;generalize (c+g*d)/4294967296=q at *;generalize (c+g*d)%4294967296=m at *;have key:∃o B:Nat,(x%4294967296).toNat=o/\(x/9223372036854775808).toNat=B/\u+4294967296*B=o+m+b/\0<=x/\0<=x/9223372036854775808/\x/9223372036854775808<=1:=χ;obtain ⟨o,B,a,e,l,f,i,j⟩:=key;refine ⟨f,i,j,?_⟩;rw [a,e];have n:u+4294967296*(B+q)=o+b+(c+g*d):=ω;have p:W*S*u+W*(S*4294967296)*(q+B)=W*S*(u+4294967296*(B+q)):=χ;grind
theorem Fa {F U c d u Y W S t:Nat}(h:F+W*S*c=U+W*Y)(ht:t=c+u+d:=by omega):F+W*S*(t%4294967296)+W*(S*4294967296)*(t/4294967296)=U+W*S*u+W*(Y+S*d):=by have a:W*S*(t%4294967296)+W*(S*4294967296)*(t/4294967296)=W*S*t:=by{grind [Nat.mod_add_div]};grind
end Go.Big
