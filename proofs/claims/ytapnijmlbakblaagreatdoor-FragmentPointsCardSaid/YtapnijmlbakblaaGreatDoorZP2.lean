import Derived.Test.YtapnijmlbakblaaGreatDoorZP1
set_option linter.unusedVariables false
open Go.IntKind (i64 u64 u32)
namespace Go.Eng
variable {P:Program} {T:cI} {n:Nat} {V0:View} {bw:Ds} {β0:Nat->Nat} {st:St} {β:Nat->Nat} {a:Act} {w:World} {V:View}
theorem cW:∀(sc:List Prop)(k:Prop),zC sc k↔(∀p∈sc,p)/\k
 | [],k=>by simp [zC]
 | p::r,k=>by
  simp only [zC,cW r k,Qq4];constructor
  ·rintro ⟨h1,h2,h3⟩;exact ⟨fun q hq=>by rcases hq with rfl|hq;exact h1;exact h2 q hq,h3⟩
  ·rintro ⟨h1,h2⟩;exact ⟨h1 p (.inl rfl),fun q hq=>h1 q (.inr hq),h2⟩
theorem aF {t:TypeId}{i:TI}(h:kT P t=some i):∃info d z,P.info? t=some info/\P.underlying t=some d/\info.zero=some z/\i.k=jO d/\i.size=info.size/\i.bytes=info.bytes/\i.zero=z.cells.toList.map C.ofConst:=by
 unfold kT at h;split at h
 ·rename_i info d a b;split at h
  ·rename_i z c;simp only [Qq2] at h;subst h;exact ⟨info,d,z,a,b,c,rfl,rfl,rfl,rfl⟩
  ·cases h
 ·cases h
theorem BJ (β:Nat->Nat)(y:Value):(C.ofConst y).den β=y:=by
 unfold C.ofConst;split<;>rfl
theorem Cg (β:Nat->Nat)(l:List Value):(l.map C.ofConst).map (C.den β)=l:=by
 induction l with
 | nil=>rfl
 | cons y r ih=>simp only [Qb3,BJ,ih]
theorem B2 (y:Value):(C.ofConst y).ids=[]:=by unfold C.ofConst;split<;>rfl
theorem Ae (l:List Value):(l.map C.ofConst).flatMap C.ids=[]:=by
 induction l with
 | nil=>rfl
 | cons y r ih=>simp [B2]
theorem aj {t:TypeId}{d:TypeDesc}(h:P.underlying t=some d)(w:World):(underlying t).run P w=.ok d w:=by simp [underlying,h]
theorem jL {t:TypeId}{i:TypeInfo}(h:P.info? t=some i)(w:World):(typeInfo t).run P w=.ok i w:=by simp [typeInfo,h]
theorem aJ {t:TypeId}{i:TypeInfo}(h:P.info? t=some i)(w:World):(sizeOf t).run P w=.ok i.size w:=by simp [sizeOf,jL h]
theorem iw {t:TypeId}{i:TypeInfo}{z:Value}(h:P.info? t=some i)(hz:i.zero=some z)(w:World):(zeroValue t).run P w=.ok z w:=by
 simp [zeroValue,jL h,hz]
def qv:TK->Bool
 | .struct _|.arr _ _=>true
 | _=>false
theorem fT {t:TypeId}{d:TypeDesc}(h:P.underlying t=some d)(w:World):(isAgg t).run P w=.ok (qv (jO d)) w:=by
 simp only [isAgg,Sem.run_bind,aj h,Result.andThen_ok];cases d<;>rfl
def Live (st:St)(x:SV):Prop:=∀s∈x.ids,∃b,st.boxes s=some b
theorem ze {k k':IntKind}(h:vg k k'=true):k=k':=by cases k<;>cases k'<;>simp_all [vg]
theorem Ed {op:BinOp}{k:IntKind}{x y:Int}{sc:List Prop}{v:SV}{xt:TypeId}(h:lS op k x y=.ret sc v)(hsc:∀p∈sc,p) :
  (binOp op xt (.int k x) (.int k y)).run P w=.ok (v.den β) w/\v.ids=[]:=by
 cases op<;>simp only [lS,Q.ret.injEq] at h<;>obtain ⟨rfl,rfl⟩:=h <;>
  simp only [Qq4,Qn7,or_false,forall_eq,false_imp_iff,implies_true] at hsc <;>
  refine ⟨?_,rfl⟩ <;>
  simp [binOp,Op.intArith,Op.intDiv,Op.intBits,Op.intCmp,Op.shift,SV.den,C.den,aU,hsc]
 all_goals (try (intro h;omega))
theorem zu {op:BinOp}{k k':IntKind}{x y:Int}{sc:List Prop}{v:SV}{xt:TypeId}(hop:op=.shl\/op=.shr)(h:lS op k x y=.ret sc v)(hsc:∀p∈sc,p) :
  (binOp op xt (.int k x) (.int k' y)).run P w=.ok (v.den β) w/\v.ids=[]:=by
 rcases hop with rfl|rfl<;>simp only [lS,Q.ret.injEq] at h<;>obtain ⟨rfl,rfl⟩:=h <;>
  simp only [Qq4,Qn7,or_false,forall_eq] at hsc <;>
  refine ⟨?_,rfl⟩ <;>
  simp [binOp,Op.shift,SV.den,C.den]<;>(intro h;omega)
section eqs
variable {t:TypeId} (d:Nat)
theorem Gm (h:P.underlying t=some .bool)(x y:Bool):(Op.equalIn (d+1) t (.bool x) (.bool y)).run P w=.ok (x==y) w:=by
 simp [Op.equalIn,aj h]
theorem yT {e:TypeId}(h:P.underlying t=some (.pointer e))(p:OA):(Op.equalIn (d+1) t (.pointer p) (.pointer none)).run P w=.ok p.isNone w:=by
 cases p<;>simp [Op.equalIn,aj h]
theorem nQ {e:TypeId}(h:P.underlying t=some (.slice e))(p:OA)(n c m k:Nat):(Op.equalIn (d+1) t (.slice p n c) (.slice none m k)).run P w=.ok p.isNone w:=by
 cases p<;>simp [Op.equalIn,aj h]
theorem uQ {ms:Array (String×TypeId)}(h:P.underlying t=some (.interface ms)){x:Value}(hx:IsIface x):(Op.equalIn (d+1) t x .nilIface).run P w=.ok (jG x) w:=by
 rcases hx with rfl|⟨u,v,rfl⟩<;>simp [Op.equalIn,aj h,jG]
end eqs
theorem jz {t:TypeId}{x y:Value}{r:Bool}(h:∀d,(Op.equalIn (d+1) t x y).run P w=.ok r w):(Op.equal t x y).run P w=.ok r w:=h 9999
theorem Bq {op:BinOp}{xt:TypeId}{x y:Bool}(ht:P.underlying xt=some .bool)(hop:op=.eql\/op=.neq) :
  (binOp op xt (.bool x) (.bool y)).run P w=.ok (.bool (if op=.eql then x==y else !(x==y))) w:=by
 have:=jz (w:=w) fun d=>Gm d ht x y;rcases hop with rfl|rfl<;>simp only [binOp,Sem.run_bind,this,Result.andThen_ok,Sem.run_pure]<;>rfl
theorem yC {c:C}{b:Bool}(h:c.bool?=some b):c.den β=.bool b/\c.ids=[]:=by
 cases c with
 | v x=>cases x<;>simp_all [C.bool?,C.den,C.ids]
 | _=>simp_all [C.bool?,C.den,C.ids]
theorem BL {d:TypeDesc}{k:IntKind}(h:jO d=.int k):d=.int k:=by cases d<;>simp_all [jO]
theorem zX {d:TypeDesc}(h:jO d=.bool):d=.bool:=by cases d<;>simp_all [jO]
theorem BM {d:TypeDesc}{e:TypeId}(h:jO d=.ptr e):d=.pointer e:=by cases d<;>simp_all [jO]
theorem aV {d:TypeDesc}{e:TypeId}(h:jO d=.slice e):d=.slice e:=by cases d<;>simp_all [jO]
theorem xA {d:TypeDesc}(h:jO d=.iface):∃ms,d=.interface ms:=by cases d<;>simp_all [jO]
theorem iI {d:TypeDesc}{fs:List (TypeId×Nat)}(h:jO d=.struct fs):∃gs,d=.struct gs/\fs=gs.toList.map fun f=>(f.type,f.offset):=by
 cases d<;>simp_all [jO]
theorem lN {d:TypeDesc}{m:Nat}{e:TypeId}(h:jO d=.arr m e):d=.array m e:=by cases d<;>simp_all [jO]
theorem iA {t:TypeId}{x y:Value}{r:Bool}(neg:Bool)(h:(Op.equal t x y).run P w=.ok r w)
  (hx:(∃p,x=.pointer p/\y=.pointer none)\/(∃p n c m k,x=.slice p n c/\y=.slice none m k)\/(IsIface x/\y=.nilIface)) :
  (binOp (if neg then .neq else .eql) t x y).run P w=.ok (.bool (if neg then !r else r)) w:=by
 rcases hx with ⟨p,rfl,rfl⟩|⟨p,n,c,m,k,rfl,rfl⟩|⟨hx,rfl⟩
 ·cases p<;>cases neg<;>simp only [Qz5,if_false,if_true,binOp,Sem.run_bind,h,Result.andThen_ok,Sem.run_pure]
 ·cases neg<;>simp only [Qz5,if_false,if_true,binOp,Sem.run_bind,h,Result.andThen_ok,Sem.run_pure]
 ·rcases hx with rfl|⟨u,v,rfl⟩<;>cases neg<;>simp only [Qz5,if_false,if_true,binOp,Sem.run_bind,h,Result.andThen_ok,Sem.run_pure]
theorem nR {op:BinOp}{t:TypeId}{x y:Operand}{u v:Value}(h:(∃p,u=.pointer p)\/(∃p n c,u=.slice p n c)\/(∃k n,u=.int k n)\/(∃b,u=.bool b)\/∃c,y=.const c)(hn:v=.nilIface->∃c,y=.const c)(hu:∀cs,u≠.agg cs) :
  (eqGuard op t x y u v).run P w=.ok () w:=by
 have key:∀(m:Sem Unit),m=(match (generalizing:=false) u,v with
   | .nilIface,.nilIface=>do
    if (match (generalizing:=false) x with|.const _=>true|_=>false)||(match (generalizing:=false) y with|.const _=>true|_=>false) then return
    if ← Op.eqGuardIn Op.maxDepth t u v then unsupported (.noEntry "binop/eql: two nil values of an interface type with methods, neither of them the literal nil")
   | .agg _,.agg _=>do
    if !(←program).eqGuardType (←program).depth t then return
    if ← Op.eqGuardIn Op.maxDepth t u v then unsupported (.noEntry "binop/eql: two nil values of an interface type with methods, in a part of a struct or an array")
   | _,_=>pure ())->m.run P w=.ok () w:=by
  intro m hm;rw [hm];clear hm;revert hn hu;split
  ·intro hn _;obtain ⟨c,rfl⟩:=hn rfl;simp
  ·rename_i cs _;intro _ hu;exact absurd rfl (hu cs)
  ·intro _ _;rfl
 cases op<;>first|rfl|exact key _ rfl
theorem Jj {xt:TypeId}{i:TI}(hi:kT P xt=some i){x y:C}(neg:Bool){sc:List Prop}{v:SV}
  (h:Au neg i.k x y=.ret sc v)(hsc:∀p∈sc,p) :
  (binOp (if neg then .neq else .eql) xt (x.den β) (y.den β)).run P w=.ok (v.den β) w/\v.ids=[] /\
  ((∃p,x.den β=.pointer p)\/(∃p n c,x.den β=.slice p n c)\/y.den β=.nilIface)/\(y.den β=.nilIface->y=.v .nilIface)/\(∀cs,x.den β≠.agg cs):=by
 obtain ⟨info,d,z,j,b,l,g,-⟩:=aF hi;unfold Au at h;split at h
 ·rename_i e a;rw [g] at a;obtain rfl:=BM a;split at h
  ·split at h
   ·simp only [Q.ret.injEq] at h;obtain ⟨rfl,rfl⟩:=h;refine ⟨?_,by cases neg<;>rfl,.inl ⟨_,rfl⟩,by simp [C.den],by simp [C.den]⟩;rename_i s o;have:=iA (w:=w) neg (jz fun d=>yT d b (some ⟨β s,o,none⟩)) (.inl ⟨_,rfl,rfl⟩);cases neg<;>exact this
   ·simp only [Q.ret.injEq] at h;obtain ⟨rfl,rfl⟩:=h;refine ⟨?_,rfl,.inl ⟨_,rfl⟩,by simp [C.den],by simp [C.den]⟩;exact iA (w:=w) neg (jz fun d=>yT d b _) (.inl ⟨_,rfl,rfl⟩)
   ·cases h
  ·cases h
 ·rename_i e a;rw [g] at a;obtain rfl:=aV a;split at h
  ·split at h
   ·simp only [Q.ret.injEq] at h;obtain ⟨rfl,rfl⟩:=h;refine ⟨?_,by cases neg<;>rfl,.inr (.inl ⟨_,_,_,rfl⟩),by simp [C.den],by simp [C.den]⟩;rename_i m k _ s o n c;have:=iA (w:=w) neg (jz fun d=>nQ d b (some ⟨β s,o,none⟩) n c m k) (.inr (.inl ⟨_,_,_,_,_,rfl,rfl⟩));cases neg<;>exact this
   ·simp only [Q.ret.injEq] at h;obtain ⟨rfl,rfl⟩:=h;refine ⟨?_,rfl,.inr (.inl ⟨_,_,_,rfl⟩),by simp [C.den],by simp [C.den]⟩;rename_i m k _ s n c;have:=iA (w:=w) neg (jz fun d=>nQ d b (mA (β s) c) n c m k) (.inr (.inl ⟨_,_,_,_,_,rfl,rfl⟩));have e:(mA (β s) c).isNone=Nat.beq c 0:=by cases c<;>rfl
    rw [e] at this;exact this
   ·simp only [Q.ret.injEq] at h;obtain ⟨rfl,rfl⟩:=h;refine ⟨?_,rfl,.inr (.inl ⟨_,_,_,rfl⟩),by simp [C.den],by simp [C.den]⟩;exact iA (w:=w) neg (jz fun d=>nQ d b _ _ _ _ _) (.inr (.inl ⟨_,_,_,_,_,rfl,rfl⟩))
   ·cases h
  ·cases h
 ·rename_i a;rw [g] at a;obtain ⟨ms,rfl⟩:=xA a;split at h
  ·split at h
   ·simp only [Q.ret.injEq] at h;obtain ⟨rfl,rfl⟩:=h;have f:=hsc _ (Qw3.2 rfl);refine ⟨?_,rfl,.inr (.inr rfl),fun _=>rfl,?_⟩
    ·exact iA (w:=w) neg (jz fun d=>uQ d b f) (.inr (.inr ⟨f,rfl⟩))
    ·intro cs e;rcases f with f|⟨u,v,f⟩<;>· simp only [C.den] at e;rw [f] at e;cases e
   ·simp only [Q.ret.injEq] at h;obtain ⟨rfl,rfl⟩:=h;refine ⟨?_,by cases neg<;>rfl,.inr (.inr rfl),fun _=>rfl,by simp [C.den]⟩;have:=iA (w:=w) neg (jz fun d=>uQ d b (x:=.nilIface) (.inl rfl)) (.inr (.inr ⟨.inl rfl,rfl⟩));cases neg<;>exact this
   ·cases h
  ·cases h
 ·cases h
theorem Jh (hT:cI.ok P T){op:BinOp}{xt:TypeId}{x y:C}{ox oy:Operand}{sc:List Prop}{v:SV}
  (h:As T op xt x y=.ret sc v)(hsc:∀p∈sc,p)(hy:y=.v .nilIface->∃c,oy=.const c) :
  (do eqGuard op xt ox oy (x.den β) (y.den β);binOp op xt (x.den β) (y.den β)).run P w=.ok (v.den β) w/\v.ids=[]:=by
 unfold As at h;split at h
 ·rename_i i j;have j:=hT _ _ j;obtain ⟨info,d,z,D,l,E,r,-⟩:=aF j;split at h
  ·split at h
   ·rename_i k a m b
    have g:(eqGuard op xt ox oy (C.den β (.v (.int k a))) (C.den β (.v (.int m b)))).run P w=.ok () w:=
     nR (.inr (.inr (.inl ⟨_,_,rfl⟩))) (by simp [C.den]) (by simp [C.den])
    have key:(binOp op xt (.int k a) (.int m b)).run P w=.ok (v.den β) w/\v.ids=[]:=by
     split at h
     ·exact zu (.inl rfl) h hsc
     ·exact zu (.inr rfl) h hsc
     ·split at h
      ·rename_i e;obtain rfl:=ze e;exact Ed h hsc
      ·cases h
    simp only [Sem.run_bind,g,Result.andThen_ok];exact key
   ·cases h
  ·rename_i n;rw [r] at n;obtain rfl:=zX n;split at h
   ·rename_i a b s t;have o:=yC (β:=β) s;have hy:=yC (β:=β) t
    have g:(eqGuard op xt ox oy (x.den β) (y.den β)).run P w=.ok () w:=by
     rw [o.1,hy.1];exact nR (.inr (.inr (.inr (.inl ⟨_,rfl⟩)))) (by simp) (by simp)
    simp only [Sem.run_bind,g,Result.andThen_ok];rw [o.1,hy.1];split at h
    ·simp only [Q.ret.injEq] at h;obtain ⟨rfl,rfl⟩:=h;exact ⟨Bq l (.inl rfl),rfl⟩
    ·simp only [Q.ret.injEq] at h;obtain ⟨rfl,rfl⟩:=h;exact ⟨Bq l (.inr rfl),rfl⟩
    ·cases h
   ·cases h
  ·have key:∀neg:Bool,Au neg i.k x y=.ret sc v->(do eqGuard (if neg then .neq else .eql) xt ox oy (x.den β) (y.den β);binOp (if neg then .neq else .eql) xt (x.den β) (y.den β)).run P w=.ok (v.den β) w/\v.ids=[]:=by
    intro neg h;obtain ⟨u,A,f,q,B⟩:=Jj (w:=w) (β:=β) j neg h hsc
    have g:(eqGuard (if neg then BinOp.neq else BinOp.eql) xt ox oy (x.den β) (y.den β)).run P w=.ok () w:=by
     refine nR ?_ (fun e=>hy (q e)) B;rcases f with f|f|f
     ·exact .inl f
     ·exact .inr (.inl f)
     ·exact .inr (.inr (.inr (.inr (hy (q f)))))
    simp only [Sem.run_bind,g,Result.andThen_ok];exact ⟨u,A⟩
   split at h
   ·exact key false h
   ·exact key true h
   ·cases h
 ·cases h
end Go.Eng
namespace Go.Eng
variable {P:Program} {T:cI} {n:Nat} {V0:View} {bw:Ds} {β0:Nat->Nat} {st:St} {β:Nat->Nat} {a:Act} {w:World} {V:View}
theorem eu (b o k:Nat):(⟨b,o,none⟩:Addr).add k=⟨b,o+k,none⟩:=by
 unfold Addr.add;split
 ·rename_i h;subst h;rfl
 ·rfl
theorem cell_of_row {g o:Nat}{vs:List Value}{ty:TypeId}(h:w.heap[g]?=some (.cells vs.toArray ty (0,0))):w.cell? ⟨g,o,none⟩=vs[o]?:=by
 simp [World.cell?,h]
theorem Cd {g o m:Nat}{vs:List Value}{ty t:TypeId}{info:TypeInfo}{d:TypeDesc}(h:w.heap[g]?=some (.cells vs.toArray ty (0,0)))
  (h1:P.info? t=some info)(h2:P.underlying t=some d)(hm:info.size=m)(hk:qv (jO d)=true)(hl:o+m<=vs.length) :
  (loadVar t ⟨g,o,none⟩).run P w=.ok (.agg ((vs.drop o).take m).toArray) w:=by
 subst hm
 have key:=run_loadCells_list (P:=P) (w:=w) ⟨g,o,none⟩ ((vs.drop o).take info.size) (by
  intro j v a;rw [eu,cell_of_row h];rw [Qv3] at a;split at a
  ·rw [Qm2] at a;exact a
  ·cases a)
 rw [Qw0,Qk7,Qy5 (by omega)] at key;simp only [loadVar,Sem.run_bind,fT h2,Result.andThen_ok,hk,if_true,aJ h1,key,Sem.run_pure]
theorem zf {g o:Nat}{vs:List Value}{ty t:TypeId}{d:TypeDesc}{v:Value}(h:w.heap[g]?=some (.cells vs.toArray ty (0,0)))
  (h2:P.underlying t=some d)(hk:qv (jO d)=false)(hv:vs[o]?=some v) :
  (loadVar t ⟨g,o,none⟩).run P w=.ok v w:=by
 simp only [loadVar,Sem.run_bind,fT h2,Result.andThen_ok,hk,Qz5,if_false,run_load,cell_of_row h,hv]
theorem Mod.row (hM:Mod n V0 bw β0 st β a w V){s:Nat}{b:aP}(hb:st.boxes s=some b)(lb:b.live):w.heap[β s]?=some (.cells (b.cs.den β).toArray b.ty (0,0)):=hM.boxes s b hb lb
theorem gD {cs:List C}{c:C}{s:Nat}(hc:c∈cs)(hs:s∈c.ids):s∈cs.flatMap C.ids:=Qw5.2 ⟨c,hc,hs⟩
theorem zk (hM:Mod n V0 bw β0 st β a w V){t:TypeId}{i:TI}(hi:kT P t=some i){x:SV}{sc:List Prop}{v:SV}(h:iQ st.boxes i x=.ret sc v) :
  (Instr.loadAt t (x.den β)).run P w=.ok (v.den β) w/\Live st v:=by
 obtain ⟨info,d,z,D,y,F,A,E,-⟩:=aF hi;unfold iQ at h;split at h
 ·rename_i b o;split at h
  ·rename_i cs ty B;have e:=hM.row B cw;have f:=hM.wX b _ B;simp only [Cells.den] at e
   have g:qv i.k=true->(if Nat.ble (o+i.size) cs.length then Q.ret [] (.agg ((cs.drop o).take i.size)) else .fail)=.ret sc v ->
     (Instr.loadAt t (SV.den β (.c (.ptr b o)))).run P w=.ok (v.den β) w/\Live st v:=by
    intro j h;split at h
    ·rename_i q;have q:=Qz9 q;simp only [Q.ret.injEq] at h;obtain ⟨-,rfl⟩:=h;refine ⟨?_,?_⟩
     ·have:=Cd (t:=t) (o:=o) (m:=i.size) e D y E.symm (A▸j) (by simpa using q);simp only [Instr.loadAt,Instr.sureAddr,SV.den,C.den,Sem.run_bind,Sem.run_pure,Result.andThen_ok,this];rw [Ww3,Ww4]
     ·intro s l;obtain ⟨c,p,l⟩:=Qw5.1 l;exact f s (gD (Qf5 (Qm7 p)) l)
    ·cases h
   split at h
   ·rename_i j;exact g (by rw [j];rfl) h
   ·rename_i j;exact g (by rw [j];rfl) h
   ·rename_i r u
    have j:qv i.k=false:=by
     cases hik:i.k<;>first|rfl|exact absurd hik (r _)|exact absurd hik (u _ _)
    split at h
    ·rename_i c p;simp only [Q.ret.injEq] at h;obtain ⟨-,rfl⟩:=h;refine ⟨?_,?_⟩
     ·have:=zf (t:=t) (o:=o) (v:=c.den β) e y (A▸j) (by simp [p]);simp only [Instr.loadAt,Instr.sureAddr,SV.den,C.den,Sem.run_bind,Sem.run_pure,Result.andThen_ok,this]
     ·intro s l;exact f s (gD (Qv1 p) l)
    ·cases h
  ·cases h
  ·split at h<;>cases h
  ·cases h
 ·split at h<;>cases h
 ·cases h
theorem wS.dN:∀(s:wS) {K:C->Prop},s.ex K->∃c,c.ids=[]/\K c
 | .int _,_,⟨_,h⟩=>⟨_,rfl,h⟩
 | .bool,_,⟨_,h⟩=>⟨_,rfl,h⟩
 | .slice,_,⟨_,_,_,h⟩=>⟨_,rfl,h⟩
 | .ptr,_,⟨_,h⟩=>⟨_,rfl,h⟩
 | .str,_,⟨_,h⟩=>⟨_,rfl,h⟩
 | .any,_,⟨_,h⟩=>⟨_,rfl,h⟩
theorem oZ:∀(l:List wS) {K:List C->Prop},Mt l K->∃cs,cs.flatMap C.ids=[]/\cs.length=l.length/\K cs
 | [],_,h=>⟨[],rfl,rfl,h⟩
 | s::r,K,h=>by
  obtain ⟨c,hc,h'⟩:=wS.dN s h;obtain ⟨cs,a,b,d⟩:=oZ r h';exact ⟨c::cs,by simp [hc,a],by simp [b],d⟩
theorem uc.dN:∀(s:uc) {K:SV->Prop},s.ex K->∃x,x.ids=[]/\((∃c,x=.c c/\∃s',s=.one s')\/∃cs l,x=.agg cs/\s=.agg l/\cs.length=l.length)/\K x
 | .one s,K,h=>by obtain ⟨c,hc,h'⟩:=wS.dN s h;exact ⟨.c c,hc,.inl ⟨c,rfl,s,rfl⟩,h'⟩
 | .agg l,K,h=>by obtain ⟨cs,a,b,h'⟩:=oZ l h;exact ⟨.agg cs,a,.inr ⟨cs,l,rfl,rfl,b⟩,h'⟩
theorem uR:∀(l:List uc) {K:List (Bool×List C)->Prop},ND l K->∃xs,(xs.flatMap fun x=>x.2.flatMap C.ids)=[]/\K xs
 | [],_,h=>⟨[],rfl,h⟩
 | .one s::r,K,h=>by
  obtain ⟨c,hc,h'⟩:=wS.dN s h;obtain ⟨xs,a,b⟩:=uR r h';exact ⟨_,by simp [hc,a],b⟩
 | .agg l::r,K,h=>by
  obtain ⟨cs,hc,-,h'⟩:=oZ l h;obtain ⟨xs,a,b⟩:=uR r h';exact ⟨(true,cs)::xs,by simp only [Qw8,hc,a,Qk2],b⟩
theorem Sh.dN:∀(s:Sh) {K:SV->Prop},s.ex K->∃x,x.ids=[]/\K x
 | .val s,K,h=>by obtain ⟨x,hx,-,h'⟩:=uc.dN s h;exact ⟨x,hx,h'⟩
 | .oI l,K,h=>by obtain ⟨xs,hx,h'⟩:=uR l h;exact ⟨.oI xs,hx,h'⟩
 | .none,K,h=>⟨.oI [],rfl,h⟩
theorem js {x:SV}(h:x.ids=[])(β β':Nat->Nat):x.den β=x.den β':=SV.bB fun s a=>by rw [h] at a;cases a
theorem bN {x:SV}(h:x.ids=[]):Live st x:=fun s a=>by rw [h] at a;cases a
theorem Cx:∀(cs:List C) (p:Addr) (i:Nat) {k:Prop},V.K5 p i cs k->(∀j c,cs[j]?=some c->V.at (p.add (i+j)) (c.den fun _=>0))/\k
 | [],_,_,_,h=>⟨fun j c hj=>by simp at hj,h⟩
 | c::r,p,i,k,⟨h1,h2⟩=>by
  obtain ⟨h3,h4⟩:=Cx r p (i+1) h2;refine ⟨fun j d hj=>?_,h4⟩
  cases j with
  | zero=>simp at hj;subst hj;exact h1
  | succ j=>simp at hj;have:=h3 j d hj;rwa [show i+1+j=i+(j+1) from by omega] at this
theorem Mod.Rb (hM:Mod n V0 bw β0 st β a w V){p:Addr}{v:Value}(h:V.at p v):w.cell? p=some v:=by
 obtain ⟨d,b⟩:=h;unfold World.cell? at b ⊢;split at b
 ·rename_i c e f g;rw [(hM.nD p.block _ ⟨d,g⟩).1];exact b
 ·cases b
theorem FG {i:TI}{l:List wS}(h:kt i=.agg l):qv i.k=true/\l.length=i.zero.length:=by
 unfold kt at h;split at h
 ·rename_i a;simp only [uc.agg.injEq] at h;subst h;exact ⟨by rw [a];rfl,by simp⟩
 ·rename_i a;simp only [uc.agg.injEq] at h;subst h;exact ⟨by rw [a];rfl,by simp⟩
 ·split at h<;>cases h
theorem FH {i:TI}{s:wS}(h:kt i=.one s):qv i.k=false:=by
 unfold kt at h;split at h
 ·cases h
 ·cases h
 ·rename_i a b;cases hik:i.k<;>first|rfl|exact absurd hik (a _)|exact absurd hik (b _ _)
theorem Nf (hM:Mod n V0 bw β0 st β a w V){t:TypeId}{i:TI}(hi:kT P t=some i)(hz:i.zero.length=i.size){p:OA}{x:SV}{k:Prop}
  (hx:x.ids=[])(hs:(∃c,x=.c c/\∃s',kt i=.one s')\/∃cs l,x=.agg cs/\kt i=.agg l/\cs.length=l.length)(h:V.J1 p x k) :
  (Instr.loadAt t (.pointer p)).run P w=.ok (x.den β) w/\k:=by
 obtain ⟨info,d,z,r,o,F,q,u,-⟩:=aF hi;rcases hs with ⟨c,rfl,s,hs⟩|⟨cs,l,rfl,hs,y⟩
 ·obtain ⟨⟨f,rfl,g⟩,A⟩:=h;have b:=FH hs;rw [q] at b;refine ⟨?_,A⟩;simp only [Instr.loadAt,Instr.sureAddr,Sem.run_bind,Sem.run_pure,Result.andThen_ok,loadVar,fT o,b,Qz5,if_false,run_load,hM.Rb g];rw [js hx β fun _=>0];rfl
 ·obtain ⟨f,rfl,B⟩:=h;obtain ⟨b,m⟩:=FG hs;rw [q] at b;obtain ⟨D,E⟩:=Cx cs f 0 B;refine ⟨?_,E⟩
  have key:=run_loadCells_list (P:=P) (w:=w) f (cs.map (C.den fun _=>0)) (by
   intro j v e;rw [Qc9] at e
   cases hc:cs[j]? with
   | none=>rw [hc] at e;cases e
   | some c=>
    rw [hc] at e;simp only [Qg8,Qq2] at e;subst e;have:=hM.Rb (D j c hc);simpa using this)
  rw [Qb6,y,m,hz,u] at key;simp only [Instr.loadAt,Instr.sureAddr,Sem.run_bind,Sem.run_pure,Result.andThen_ok,loadVar,fT o,b,if_true,aJ r,key];rw [js hx β fun _=>0];rfl
theorem zn (hM:Mod n V0 bw β0 st β a w V){t:TypeId}{i:TI}(hi:kT P t=some i){b o:Nat}{vs:List Value}{ty:TypeId}(hb:st.boxes b=some ⟨.row vs,ty⟩\/(st.boxes b=some ⟨.aN vs,ty⟩/\i.size≠0)){x:SV}
  (hx:x.ids=[])(hs:(∃c,x=.c c/\∃s',kt i=.one s')\/∃cs l,x=.agg cs/\kt i=.agg l/\cs.length=l.length)(h:K_ vs o i.size x) :
  (Instr.loadAt t (SV.den β (.c (.ptr b o)))).run P w=.ok (x.den β) w:=by
 obtain ⟨info,d,z,p,j,A,k,q,-⟩:=aF hi
 have g:w.heap[β b]?=some (.cells vs.toArray ty (0,0)):=by
  rcases hb with hb|⟨hb,B⟩
  ·exact hM.row hb cf
  ·refine hM.row hb (dQ fun e=>?_);subst e;rcases hs with ⟨c,rfl,s,hs⟩|⟨cs,l,rfl,hs,r⟩
   ·simp [K_] at h
   ·have:=h.1;simp at this;omega
 rcases hs with ⟨c,rfl,s,hs⟩|⟨cs,l,rfl,hs,r⟩
 ·have f:=FH hs;rw [k] at f;have:=zf (t:=t) (o:=o) g j f h;rw [show SV.den β (.c c)=C.den (fun _=>0) c from js (x:=.c c) hx β _];show (Instr.loadAt t (.pointer (some ⟨β b,o,none⟩))).run P w=_;simp only [Instr.loadAt,Instr.sureAddr,Sem.run_bind,Sem.run_pure,Result.andThen_ok,this]
 ·obtain ⟨f,u⟩:=FG hs;rw [k] at f;obtain ⟨v,y⟩:=h;have:=Cd (t:=t) (o:=o) (m:=i.size) g p j q.symm f v;simp only [Instr.loadAt,Instr.sureAddr,C.den,SV.den,Sem.run_bind,Sem.run_pure,Result.andThen_ok,this,y];have:=js (x:=.agg cs) hx β fun _=>0;simp only [SV.den,Value.agg.injEq] at this;rw [this]
theorem M8 {c:C}(h:∀p∈eC c,p):(c.den β).oneCell'=true:=by
 cases c with
 | v x=>cases x<;>first|rfl|exact (h False (by simp [eC])).elim
 | w x=>exact h (x.oneCell'=true) (by simp [eC])
 | _=>rfl
theorem Ge {v:Value}(h:v.oneCell'=true):v.cells=#[v]:=by cases v<;>first|rfl|simp [Value.oneCell'] at h
theorem SV.qK {x:SV}(ht:x.vd=false)(h:∀p∈x.eC,p):(x.den β).cells=(x.cells.map (C.den β)).toArray/\∀v∈x.cells.map (C.den β),v.oneCell'=true:=by
 have b:∀c∈x.cells,(c.den β).oneCell'=true:=fun c a=>M8 fun p d=>h p (Qw5.2 ⟨c,a,d⟩);refine ⟨?_,fun v e=>by obtain ⟨c,a,rfl⟩:=Qy0.1 e;exact b c a⟩
 cases x with
 | c c=>exact Ge (b c (by simp [SV.cells]))
 | agg cs=>rfl
 | oI xs=>cases ht
theorem iT {g:Nat}{old cs:Array Value}{ty:TypeId}(h:w.heap[g]?=some (.cells old ty (0,0))):(w.setRow g cs).heap=w.heap.setIfInBounds g (.cells cs ty (0,0)):=by
 apply Array.ext_getElem?;intro i;by_cases e:i=g
 ·subst e;rw [setRow_heap w i old cs ty (0,0) h,Qb4,if_pos rfl,if_pos (aB h)]
 ·rw [setRow_other w g i cs e,Qb4,if_neg (Wx0 e)]
theorem dT {cs:List C}{vs:List Value}(h:jA cs=some vs):cs.map (C.den β)=vs/\cs.flatMap C.ids=[]:=by
 induction cs generalizing vs with
 | nil=>simp [jA] at h;subst h;exact ⟨rfl,rfl⟩
 | cons c r ih=>
  simp only [jA] at h;split at h
  ·rename_i v ws e a;simp only [Qq2] at h;subst h;obtain ⟨b,d⟩:=ih a;have:c.den β=v/\c.ids=[]:=by cases c<;>simp_all [C.val?,C.den,C.ids]
   exact ⟨by simp [b,this.1],by simp [d,this.2]⟩
  ·cases h
theorem pR {cs xs:List C}{o:Nat}:(setCells cs o xs).map (C.den β)=(cs.map (C.den β)).take o++xs.map (C.den β)++(cs.map (C.den β)).drop (o+xs.length):=by
 simp [setCells,Ww3,Ww4]
theorem pQ {cs xs:List C}{o s:Nat}(h:s∈(setCells cs o xs).flatMap C.ids):s∈cs.flatMap C.ids\/s∈xs.flatMap C.ids:=by
 obtain ⟨c,a,b⟩:=Qw5.1 h;simp only [setCells,Qw1] at a;rcases a with (a|a)|a
 ·exact .inl (gD (Qm7 a) b)
 ·exact .inr (gD a b)
 ·exact .inl (gD (Qf5 a) b)
theorem lf {vs xs:List Value}{o:Nat}(h:o+xs.length<=vs.length:=by omega):af vs o xs=vs.take o++xs++vs.drop (o+xs.length):=by
 unfold af;split
 ·rename_i x;have:o<vs.length:=by simp at h;omega
  rw [Qp6,if_pos this];simp
 ·rfl
theorem SV.qL {x:SV}{s:Nat}(ht:x.vd=false):s∈x.cells.flatMap C.ids->s∈x.ids:=by
 cases x with
 | c c=>simp [SV.cells,SV.ids]
 | agg cs=>exact id
 | oI xs=>cases ht
theorem Es (hM:Mod n V0 bw β0 st β a w V){t:TypeId}{i:TI}(hi:kT P t=some i){av xv:SV}(hx:Live st xv){sc:List Prop}{s:Nat}{b:aP}
  (h:fS st.boxes i av xv=.tu sc s b)(hsc:∀p∈sc,p) :
  ∃w',(Instr.storeAt t (av.den β) (xv.den β)).run P w=.ok () w'/\Mod n V0 bw β0 (st.box s b) β a w' V:=by
 obtain ⟨info,d,z,W,Y,Z,h4,U,-⟩:=aF hi;unfold fS at h;split at h
 ·rename_i g o;split at h
  ·rename_i k;simp only [Qx1,beq_eq,Qc3] at k;obtain ⟨hlen,y⟩:=k
   have core:∀(j:List Value)(ty:TypeId)(K:aP),w.heap[β g]?=some (.cells j.toArray ty (0,0))->(∀p∈xv.eC,p)->o+xv.cells.length<=j.length->K.ty=ty ->
     K.cs.den β=j.take o++xv.cells.map (C.den β)++j.drop (o+xv.cells.length) ->
     ∃w',(Instr.storeAt t (SV.den β (.c (.ptr g o))) (xv.den β)).run P w=.ok () w'/\w'.heap=w.heap.setIfInBounds (β g) (K.obj β)/\w'.os=w.os/\w'.tape=w.tape/\w'.output=w.output:=by
    intro j ty K f A hle M B;obtain ⟨D,N⟩:=SV.qK (β:=β) y A;have key:=run_storeCells_at (P:=P) (β g) o ty (xv.cells.map (C.den β)) 0 j.toArray w f (by simpa using hle) N;refine ⟨w.setRow (β g) (j.take o++xv.cells.map (C.den β)++j.drop (o+xv.cells.length)).toArray,?_,?_⟩
    ·generalize xv.den β=v at D;show (Instr.storeAt t (.pointer (some ⟨β g,o,none⟩)) v).run P w=_;simp only [Instr.storeAt,Instr.sureAddr,Sem.run_bind,Sem.run_pure,Result.andThen_ok,storeVar,aJ W,D];simp [hlen,U];simpa [hlen,U] using key
    ·exact ⟨by rw [iT f,aP.obj,B,M],rfl,rfl,rfl⟩
   split at h
   ·rename_i cs ty q;split at h
    ·rename_i O;have O:=Qz9 O;simp only [Q.tu.injEq] at h;obtain ⟨rfl,rfl,rfl⟩:=h;have f:=hM.row q cw;obtain ⟨w',E,F,G,H,I⟩:=core _ _ ⟨.lit (setCells cs o xv.cells),ty⟩ f hsc (by simpa [Cells.den,hlen] using O) rfl (by simp only [Cells.den];exact pR);refine ⟨w',E,hM.tu q cw ?_ F G H I⟩;intro L l;rcases pQ l with R|R
     ·exact hM.wX _ _ q L R
     ·exact hx L (SV.qL y R)
    ·cases h
   ·rename_i x ty q;split at h
    ·rename_i xs r;simp only [Q.tu.injEq] at h;obtain ⟨rfl,rfl,rfl⟩:=h;have f:=hM.row q cf;obtain ⟨m,S⟩:=dT (β:=β) r;have hle:o+i.size<=x.length:=hsc _ (by simp);have u:xs.length=i.size:=by rw [←m,Qb6,hlen]
     obtain ⟨w',E,F,G,H,I⟩:=core _ _ ⟨.row (af x o xs),ty⟩ f (fun p T=>hsc p (Qk3 _ T)) (by simpa [Cells.den,hlen] using hle) rfl (by
      simp only [Cells.den];rw [lf,m,hlen,u])
     exact ⟨w',E,hM.tu q cf (by intro L l;simp [Cells.ids] at l) F G H I⟩
    ·cases h
   ·rename_i x ty q;split at h
    ·cases h
    rename_i X;split at h
    ·rename_i xs r;simp only [Q.tu.injEq] at h;obtain ⟨rfl,rfl,rfl⟩:=h;obtain ⟨m,S⟩:=dT (β:=β) r;have hle:o+i.size<=x.length:=hsc _ (by simp)
     have J:aP.live ⟨.aN x,ty⟩:=dQ fun e=>by
      subst e;simp at hle;exact X (by rw [hle.2];rfl)
     have f:=hM.row q J;have u:xs.length=i.size:=by rw [←m,Qb6,hlen]
     obtain ⟨w',E,F,G,H,I⟩:=core _ _ ⟨.aN (af x o xs),ty⟩ f (fun p T=>hsc p (Qk3 _ T)) (by simpa [Cells.den,hlen] using hle) rfl (by
      simp only [Cells.den];rw [lf,m,hlen,u])
     exact ⟨w',E,hM.tu q J (by intro L l;simp [Cells.ids] at l) F G H I⟩
    ·cases h
   ·cases h
  ·cases h
 ·cases h
end Go.Eng
namespace Go.Eng
variable {P:Program} {T:cI} {n:Nat} {V0:View} {bw:Ds} {β0:Nat->Nat} {st:St} {β:Nat->Nat} {a:Act} {w:World} {V:View}
theorem Gr (xs:List Value):∀(cs:Array Value)(off:Nat),off+xs.length<=cs.size ->
  (xs.toArray.zipIdx.foldl (fun cs (p:Value×Nat)=>cs.setIfInBounds (off+p.2) p.1) cs)=(cs.toList.take off++xs++cs.toList.drop (off+xs.length)).toArray:=by
 have gen:∀(xs:List Value)(k:Nat)(cs:List Value)(off:Nat),off+k+xs.length<=cs.length ->
   (xs.zipIdx k).foldl (fun (cs:Array Value) (p:Value×Nat)=>cs.setIfInBounds (off+p.2) p.1) cs.toArray=(cs.take (off+k)++xs++cs.drop (off+k+xs.length)).toArray:=by
  intro xs
  induction xs with
  | nil=>intro k cs off _;simp
  | cons x r ih=>
   intro k cs off h;simp only [Qz2] at h;simp only [List.zipIdx_cons,Qc4,List.setIfInBounds_toArray];rw [ih (k+1) (cs.set (off+k) x) off (by simp;omega)];congr 1;have a:off+k<cs.length:=by omega
   rw [Qp6,if_pos a]
   have b:(cs.take (off+k)++x::cs.drop (off+k+1)).take (off+(k+1))=cs.take (off+k)++[x]:=by
    rw [List.take_append,Qc1 (by simp;omega),Qw0,Qy5 (by omega),show off+(k+1)-(off+k)=1 from by omega];simp
   have c:(cs.take (off+k)++x::cs.drop (off+k+1)).drop (off+(k+1)+r.length)=cs.drop (off+k+(r.length+1)):=by
    rw [List.drop_append,Qx0 (by simp;omega),Qw0,Qy5 (by omega),show off+(k+1)+r.length-(off+k)=r.length+1 from by omega];simp only [Qm3,List.drop_succ_cons,Qm0];congr 1;omega
   rw [b,c];simp
 intro cs off h;have:=gen xs 0 cs.toList off (by simpa using h);simpa [←Array.foldl_toList] using this
theorem mI {place:Nat->Option (Nat×Nat)}:∀(ps:List (Nat×SV))(cells out:List C),nf place cells ps=some out ->
  (∀x∈ps,∀v:C,v∈x.2.cells->∀p∈eC v,p) ->
  Instr.fill place (cells.map (C.den β)).toArray (ps.map fun x=>(x.1,x.2.den β))=some (out.map (C.den β)).toArray /\
  (∀s∈out.flatMap C.ids,s∈cells.flatMap C.ids\/∃x∈ps,s∈x.2.ids)
 | [],cells,out,h,_=>by
  simp only [nf,Qq2] at h;subst h;exact ⟨rfl,fun s hs=>.inl hs⟩
 | (i,x)::r,cells,out,h,hone=>by
  simp only [nf] at h;split at h
  ·cases h
  ·rename_i off size hp;split at h
   ·rename_i hc;simp only [Qx1,beq_eq,Qc3] at hc;obtain ⟨⟨hl,hle⟩,hnt⟩:=hc;have hle:=Qz9 hle;have hnt:x.vd=false:=by simpa using hnt
    have e:∀p∈x.eC,p:=fun p hp=>by
     obtain ⟨v,f,hp⟩:=Qw5.1 hp;exact hone (i,x) (by simp) v f p hp
    obtain ⟨b,-⟩:=SV.qK (β:=β) hnt e;obtain ⟨g,j⟩:=mI r _ _ h (fun y c=>hone y (Qq8 _ c));refine ⟨?_,?_⟩
    ·simp only [Qb3,Instr.fill,hp];rw [if_neg (by rw [b];simp [hl];omega)];rw [b];have:=Gr (x.cells.map (C.den β)) (cells.map (C.den β)).toArray off (by simpa [hl] using hle);rw [this];rw [←g,pR];simp
    ·intro s hs;rcases j s hs with d|⟨y,c,d⟩
     ·rcases pQ d with a|a
      ·exact .inl a
      ·exact .inr ⟨(i,x),by simp,SV.qL hnt a⟩
     ·exact .inr ⟨y,Qq8 _ c,d⟩
   ·cases h
theorem jx (hM:Mod n V0 bw β0 st β a w V):∀(l:List (Nat×Operand))(ps:List (Nat×SV)),partsOf st.aY l=some ps ->
  (l.map fun x=>(x.1,a.eval x.2))=(ps.map fun x=>(x.1,x.2.den β))/\∀x∈ps,Live st x.2
 | [],ps,h=>by simp only [partsOf,Qq2] at h;subst h;exact ⟨rfl,fun x hx=>by cases hx⟩
 | (i,o)::r,ps,h=>by
  simp only [partsOf] at h;split at h
  ·rename_i x l hx hl;simp only [Qq2] at h;subst h;obtain ⟨h1,h2⟩:=jx hM r l hl;refine ⟨by simp [h1,hM.eval hx],fun y b=>?_⟩;rcases Qq4.1 b with rfl|b
   ·exact hM.live hx
   ·exact h2 y b
  ·cases h
theorem eY (hM:Mod n V0 bw β0 st β a w V):∀(l:List Operand)(xs:List SV),bR st.aY l=some xs ->
  l.map a.eval=xs.map (SV.den β)/\∀x∈xs,Live st x
 | [],xs,h=>by simp only [bR,Qq2] at h;subst h;exact ⟨rfl,fun x hx=>by cases hx⟩
 | o::r,xs,h=>by
  simp only [bR] at h;split at h
  ·rename_i x l hx hl;simp only [Qq2] at h;subst h;obtain ⟨h1,h2⟩:=eY hM r l hl;refine ⟨by simp [h1,hM.eval hx],fun y b=>?_⟩;rcases Qq4.1 b with rfl|b
   ·exact hM.live hx
   ·exact h2 y b
  ·cases h
theorem lA (hT:cI.ok P T):∀(gs:List Field)(pl:List (Nat×Nat)),eV T (gs.map fun f=>(f.type,f.offset))=some pl ->
  ∀w:World,(gs.mapM fun f:Field=>do pure (f.offset,←sizeOf f.type)).run P w=.ok pl w
 | [],pl,h,w=>by simp only [List.map_nil,eV,Qq2] at h;subst h;simp
 | f::r,pl,h,w=>by
  simp only [Qb3,eV] at h;split at h
  ·rename_i i l hi hl;simp only [Qq2] at h;subst h;obtain ⟨info,d,z,h1,h2,h3,h4,h5,-⟩:=aF (hT _ _ hi);have:=lA hT r l hl w;simp only [bind_pure_comp] at this;simp [Wy0,aJ h1,this,h5]
  ·cases h
theorem dH {i:TI}{z:Value}(h:i.zero=z.cells.toList.map C.ofConst):(i.zero.map (C.den β)).toArray=z.cells/\i.zero.flatMap C.ids=[]:=by
 rw [h];exact ⟨by rw [Cg],Ae _⟩
theorem Ak {ps:List (Nat×SV)}(h:∀p∈ps.flatMap (fun x=>x.2.eC),p):∀x∈ps,∀v:C,v∈x.2.cells->∀p∈eC v,p:=
 fun x a v b p c=>h p (Qw5.2 ⟨x,a,Qw5.2 ⟨v,b,c⟩⟩)
theorem parts_eq {parts:Array (Nat×Operand)}{ps:List (Nat×SV)}(h:(parts.toList.map fun x=>(x.1,a.eval x.2))=(ps.map fun x=>(x.1,x.2.den β))) :
  (parts.map fun x=>(x.1,a.eval x.2)).toList=ps.map fun x=>(x.1,x.2.den β):=by rw [Qm8];exact h
theorem zI (hT:cI.ok P T)(hM:Mod n V0 bw β0 st β a w V){t:TypeId}{i:TI}(hi:kT P t=some i){fs:List (TypeId×Nat)}(hk:i.k=.struct fs)
  {parts:Array (Nat×Operand)}{ps:List (Nat×SV)}(hp:partsOf st.aY parts.toList=some ps){pl:List (Nat×Nat)}(hpl:eV T fs=some pl)
  {cs:List C}(hf:nf (fun j=>pl[j]?) i.zero ps=some cs)(hsc:∀p∈ps.flatMap (fun x=>x.2.eC),p) :
  (Instr.build t (parts.map fun x=>(x.1,a.eval x.2))).run P w=.ok (SV.den β (.agg cs)) w/\Live st (.agg cs):=by
 obtain ⟨info,d,z,b,c,e,g,A,B,l⟩:=aF hi;obtain ⟨m,o⟩:=jx hM _ _ hp;rw [g] at hk;obtain ⟨gs,rfl,rfl⟩:=iI hk;obtain ⟨q,r⟩:=dH (β:=β) l;obtain ⟨f1,f2⟩:=mI (β:=β) _ _ _ hf (Ak hsc);have hm:=lA hT gs.toList pl hpl w;refine ⟨?_,?_⟩
 ·have u:(gs.mapM fun f:Field=>do pure (f.offset,←sizeOf f.type)).run P w=.ok pl.toArray w:=by
   rw [Wq3];simp only [Sem.run_map,hm,Result.andThen_ok]
  simp only [Instr.build,Sem.run_bind,iw b e,Result.andThen_ok,aj c,u];rw [parts_eq m,←q];have:(fun j:Nat=>pl.toArray[j]?)=fun j:Nat=>pl[j]?:=by funext j;simp
  rw [this,f1];rfl
 ·intro s v;rcases f2 s v with h|⟨x,y,h⟩
  ·rw [r] at h;cases h
  ·exact o x y s h
theorem Bs (hT:cI.ok P T)(hM:Mod n V0 bw β0 st β a w V){t:TypeId}{i:TI}(hi:kT P t=some i){m:Nat}{e:TypeId}(hk:i.k=.arr m e)
  {parts:Array (Nat×Operand)}{ps:List (Nat×SV)}(hp:partsOf st.aY parts.toList=some ps){ei:TI}(he:aC T e=some ei)
  {cs:List C}(hf:nf (fun j=>some (j*ei.size,ei.size)) i.zero ps=some cs)(hsc:∀p∈ps.flatMap (fun x=>x.2.eC),p) :
  (Instr.build t (parts.map fun x=>(x.1,a.eval x.2))).run P w=.ok (SV.den β (.agg cs)) w/\Live st (.agg cs):=by
 obtain ⟨info,d,z,b,c,f,g,D,E,l⟩:=aF hi;obtain ⟨F,G,H,o,I,J,K,q,L,M⟩:=aF (hT _ _ he);obtain ⟨r,u⟩:=jx hM _ _ hp;rw [g] at hk;obtain rfl:=lN hk;obtain ⟨v,y⟩:=dH (β:=β) l;obtain ⟨f1,f2⟩:=mI (β:=β) _ _ _ hf (Ak hsc);refine ⟨?_,?_⟩
 ·simp only [Instr.build,Sem.run_bind,iw b f,Result.andThen_ok,aj c,aJ o];rw [parts_eq r,←v,←q,f1];rfl
 ·intro s A;rcases f2 s A with h|⟨x,B,h⟩
  ·rw [y] at h;cases h
  ·exact u x B s h
theorem GZ {α:Type}[Inhabited α](zs:List α)(m:Nat):((List.range (m*zs.length)).map fun j=>zs.toArray[j%zs.length]!)=(List.replicate m zs).flatten:=by
 induction m with
 | zero=>simp
 | succ m ih=>
  rw [List.replicate_succ',List.flatten_append,←ih,Qc5,List.range_add,Qp7];congr 1;simp only [Wq7,List.flatten_nil,Qk2,Qt8];apply List.ext_getElem?;intro j;rw [Qc9];by_cases a:j<zs.length
  ·rw [List.getElem?_range a];simp only [Qg8,Function.comp];rw [Qd7,Nat.add_mul_mod_self_right,Qx7 a];simp [a]
  ·rw [Qj6 (by simp;omega),Qj6 (by omega)];rfl
theorem K7 (m:Nat)(zs:List C):(rep m zs).map (C.den β)=(List.replicate m (zs.map (C.den β))).flatten:=by
 unfold rep;rw [List.map_flatten,List.map_replicate]
theorem K6 {m:Nat}{zs:List C}(h:zs.flatMap C.ids=[]):(rep m zs).flatMap C.ids=[]:=by
 unfold rep
 induction m with
 | zero=>rfl
 | succ m ih=>rw [Qp3,Wq7,Qd0,h,ih];rfl
theorem qm (m:Nat)(zs:List Value):rN m zs=(List.replicate m zs).flatten:=by
 unfold rN;split
 ·rename_i z
  induction m with
  | zero=>rfl
  | succ m ih=>rw [Qp3,Qp3,Wq7,ih];rfl
 ·rfl
theorem qz {z:Value}{m:Nat}(k:Nat)(hk:k=m*z.cells.size) :
  ((Array.range k).map fun j=>z.cells[j%z.cells.size]!)=((List.replicate m z.cells.toList).flatten).toArray:=by
 apply Qb9;rw [Qm8,Array.toList_range];subst hk;have:=GZ z.cells.toList m;simpa using this
theorem um {z:Value}{m:Nat}(h0:m*z.cells.size=0):(List.replicate m z.cells.toList).flatten=[]:=by
 rcases Qs9.1 h0 with h|h
 ·subst h;rfl
 ·have:z.cells.toList=[]:=by
   have:z.cells.toList.length=0:=by simpa using h
   exact Qq6.1 this
  rw [this];simp
theorem Jp:Array.range 0=#[]:=rfl
theorem uq (hT:cI.ok P T)(hM:Mod n V0 bw β0 st β a w V){t:TypeId}{i:TI}(hi:kT P t=some i){e:TypeId}(hk:i.k=.slice e){len:Nat}
  {parts:Array (Nat×Operand)}{ps:List (Nat×SV)}(hp:partsOf st.aY parts.toList=some ps){ei:TI}(he:aC T e=some ei)
  (hlen:len*ei.size<=16777216)(hzl:ei.zero.length=ei.size)(hz0:ei.size≠0)
  {cs:List C}(hf:nf (fun j=>some (j*ei.size,ei.size)) (rep len ei.zero) ps=some cs)(hsc:∀p∈ps.flatMap (fun x=>x.2.eC),p) :
  (Instr.buildSlice t len (parts.map fun x=>(x.1,a.eval x.2))).run P w=.ok (.slice (some ⟨w.heap.size,0,none⟩) len len) (w.alloc (aP.obj β ⟨.lit cs,e⟩)) /\
  ∀s∈cs.flatMap C.ids,∃b,st.boxes s=some b:=by
 obtain ⟨info,d,z,L,y,M,A,N,O,Q⟩:=aF hi;obtain ⟨g,R,l,r,S,B,U,o,W,D⟩:=aF (hT _ _ he);obtain ⟨u,E⟩:=jx hM _ _ hp;rw [A] at hk;obtain rfl:=aV hk;obtain ⟨v,F⟩:=dH (β:=β) D;obtain ⟨f1,f2⟩:=mI (β:=β) _ _ _ hf (Ak hsc);have f:l.cells.size=g.size:=by rw [←v];simp [hzl,o]
 refine ⟨?_,?_⟩
 ·have c:((List.replicate len l.cells.toList).flatten).toArray=((rep len ei.zero).map (C.den β)).toArray:=by
   rw [K7,←v]
  have G:¬len*g.size>2^24:=by rw [←o];simpa using hlen
  simp only [Instr.buildSlice,Sem.run_bind,aj y,Result.andThen_ok,aJ r,Sem.run_ite,if_neg G];by_cases q:len*g.size=0
  ·have H:=um (z:=l) (m:=len) (by rw [f];exact q);rw [H] at c;simp only [q,if_true,Sem.run_pure,Result.andThen_ok,Jp,Array.map_empty,←c] at f1 ⊢;rw [parts_eq u,←o];have I:Instr.fill (fun j=>some (j*ei.size,ei.size)) #[] (ps.map fun x=>(x.1,x.2.den β))=some (cs.map (C.den β)).toArray:=f1;rw [I];simp only [Sem.run_bind,newRow,run_newObj,Result.andThen_ok,Sem.run_pure];rfl
  ·simp only [q,if_false,iw r B,Sem.run_pure,Result.andThen_ok];rw [qz (z:=l) (m:=len) (len*g.size) (by rw [f]),c,parts_eq u,←o,f1];simp only [Sem.run_bind,newRow,run_newObj,Result.andThen_ok,Sem.run_pure];rfl
 ·intro s J;rcases f2 s J with h|⟨x,K,h⟩
  ·rw [K6 F] at h;cases h
  ·exact E x K s h
theorem zz {x:Int}(h0:0<=x)(h1:x<9223372036854775808:=by omega):i64.wrap x=x:=by
 unfold IntKind.wrap IntKind.bits IntKind.signed;simp;omega
theorem xC (hT:cI.ok P T){t:TypeId}{i:TI}(hi:kT P t=some i){e:TypeId}(hk:i.k=.slice e){ei:TI}(he:aC T e=some ei)
  {k1 k2:IntKind}{l c:Int}(hb:ei.bytes≠0)(hs:ei.size≠0){zs:List Value}(hz:jA ei.zero=some zs)(hzl:ei.size=zs.length)
  (c1:0<=l)(c2:l<=c)(c3:(ei.bytes:Int)*c<=140737488355328) :
  (Instr.makeSlice t (.int k1 l) (.int k2 c)).run P w=.ok (.slice (some ⟨w.heap.size,0,none⟩) l.toNat c.toNat) (w.alloc (aP.obj β ⟨.row (rN c.toNat zs),e⟩)):=by
 obtain ⟨info,d,z,B,p,C,q,D,E,F⟩:=aF hi;obtain ⟨f,G,g,h,H,r,I,s,u,v⟩:=aF (hT _ _ he);rw [q] at hk;obtain rfl:=aV hk;obtain ⟨n,J⟩:=dH (β:=β) v;obtain ⟨d1,-⟩:=dT (β:=β) hz;have b:g.cells.size=f.size:=by rw [←n,d1];simp [←hzl,s]
 have o:c<=140737488355328:=by
  have:1<=(ei.bytes:Int):=by omega
  have:=Int.mul_le_mul_of_nonneg_right this (by omega:0<=c);omega
 have x:i64.wrap l=l:=zz c1;have y:i64.wrap c=c:=zz (by omega);rw [u] at c3
 have t1:(decide (c<0)||decide ((f.bytes:Int)*c>2^48))=false:=by
  rw [show ((2:Int)^48)=281474976710656 from by decide];simp;omega
 have t2:decide (l<0)=false:=by simp;omega
 have t3:decide (l>c)=false:=by simp;omega
 have a:(List.replicate c.toNat g.cells.toList).flatten=rN c.toNat zs:=by rw [qm,←d1,←n]
 simp only [Instr.makeSlice,Sem.run_bind,aj p,Result.andThen_ok,jL h,asInt,asIntOf,Sem.run_pure,x,y,t1,t2,t3,Bool.or_self,Qz5,if_false,run_askRoom,aJ h,Sem.run_ite];by_cases j:c.toNat*f.size=0
 ·have A:=um (z:=g) (m:=c.toNat) (by rw [b];exact j);rw [A] at a;simp only [j,if_true,Sem.run_bind,Sem.run_pure,Result.andThen_ok,Jp,Array.map_empty,newRow,run_newObj,←a];rfl
 ·simp only [j,if_false,iw h r,Result.andThen_ok];rw [qz (z:=g) (m:=c.toNat) (c.toNat*f.size) (by rw [b]),a];simp only [Sem.run_bind,newRow,run_newObj,Result.andThen_ok,Sem.run_pure];rfl
end Go.Eng
namespace Go.Eng
variable {P:Program} {T:cI} {n:Nat} {V0:View} {bw:Ds} {β0:Nat->Nat} {st:St} {β:Nat->Nat} {a:Act} {w:World} {V:View}
theorem BR {gs:Array Field}{f ft off:Nat}(h:(gs.toList.map fun f=>(f.type,f.offset))[f]?=some (ft,off)):∃JY,gs[f]?=some JY/\JY.type=ft/\JY.offset=off:=by
 rw [Qc9] at h
 cases hg:gs.toList[f]? with
 | none=>rw [hg] at h;cases h
 | some JY=>
  rw [hg] at h;simp only [Qg8,Qq2,Qb5] at h;exact ⟨JY,by simpa using hg,h.1,h.2⟩
theorem rX (hT:cI.ok P T){t:TypeId}{i:TI}(hi:kT P t=some i){fs:List (TypeId×Nat)}(hk:i.k=.struct fs){f ft off:Nat}(hf:fs[f]?=some (ft,off))
  {fi:TI}(hfi:aC T ft=some fi)(hs:fi.size≠0)(ad:Addr):(Instr.fieldAt t (.pointer (some ad)) f).run P w=.ok (.pointer (some (ad.add off))) w:=by
 obtain ⟨info,d,z,g,a,h,b,j,l,m⟩:=aF hi;obtain ⟨n,fd,o,c,p,q,r,s,u,v⟩:=aF (hT _ _ hfi);rw [b] at hk;obtain ⟨gs,rfl,rfl⟩:=iI hk;obtain ⟨x,e,rfl,rfl⟩:=BR hf;simp only [Instr.fieldAt,Sem.run_bind,aj a,Result.andThen_ok,e,Instr.sureAddr,Sem.run_pure,fieldPlace,aJ c];rw [Sem.run_ite,if_neg (by omega)];rfl
theorem Cq {t:TypeId}{i:TI}(hi:kT P t=some i)(cs:List C)(off:Nat) :
  (qv i.k=true->(part t (cs.map (C.den β)).toArray off).run P w=.ok (SV.den β (.agg ((cs.drop off).take i.size))) w) /\
  (∀c,qv i.k=false->cs[off]?=some c->(part t (cs.map (C.den β)).toArray off).run P w=.ok (c.den β) w):=by
 obtain ⟨info,d,z,f,b,j,e,g,l,m⟩:=aF hi;refine ⟨fun a=>?_,fun c a h=>?_⟩
 ·rw [e] at a;simp only [part,Sem.run_bind,fT b,Result.andThen_ok,a,if_true,aJ f,Sem.run_pure,SV.den];congr 2;apply Qb9;rw [←g];simp [Ww3,Ww4,List.extract,List.take_drop]
 ·rw [e] at a;simp [part,fT b,a,h]
theorem Gn (hT:cI.ok P T){t:TypeId}{i:TI}(hi:kT P t=some i){fs:List (TypeId×Nat)}(hk:i.k=.struct fs){f ft off:Nat}(hf:fs[f]?=some (ft,off))
  {fi:TI}(hfi:aC T ft=some fi){cs:List C} :
  (qv fi.k=true->(Instr.field t (SV.den β (.agg cs)) f).run P w=.ok (SV.den β (.agg ((cs.drop off).take fi.size))) w) /\
  (∀c,qv fi.k=false->cs[off]?=some c->(Instr.field t (SV.den β (.agg cs)) f).run P w=.ok (c.den β) w):=by
 obtain ⟨info,d,z,n,g,o,j,p,q,s⟩:=aF hi;rw [j] at hk;obtain ⟨gs,rfl,rfl⟩:=iI hk;obtain ⟨b,l,rfl,rfl⟩:=BR hf;have e:=Cq (w:=w) (β:=β) (hT _ _ hfi) cs b.offset
 have a:∀r,(part b.type (cs.map (C.den β)).toArray b.offset).run P w=r->(Instr.field t (SV.den β (.agg cs)) f).run P w=r:=by
  intro r a;simp only [Instr.field,Sem.run_bind,aj g,Result.andThen_ok,l,asAgg,SV.den,Sem.run_pure,a]
 exact ⟨fun h=>a _ (e.1 h),fun c h m=>a _ (e.2 c h m)⟩
theorem dn (k:IntKind)(x:Int):(asIntOf (.int k x)).run P w=.ok (k,x) w:=rfl
theorem vG (hT:cI.ok P T){t:TypeId}{i:TI}(hi:kT P t=some i){x ix:SV}{sc:List Prop}{v:SV}(h:fR T i x ix=.ret sc v)(hsc:∀p∈sc,p) :
  (Instr.indexAt t (x.den β) (ix.den β)).run P w=.ok (v.den β) w/\∀s∈v.ids,s∈x.ids:=by
 obtain ⟨info,d,z,J,j,K,r,L,M,N⟩:=aF hi;unfold fR at h;split at h
 ·rename_i k m;split at h
  ·rename_i e l;rw [r] at l;obtain rfl:=aV l;split at h
   ·rename_i u he;obtain ⟨y,A,B,f,D,E,F,g,G,H⟩:=aF (hT _ _ he);split at h
    ·rename_i n len c;simp only [Q.ret.injEq] at h;obtain ⟨rfl,rfl⟩:=h;have q:=hsc (n.isSome=true) (by simp);have a:=hsc (0<=m/\m<(len:Int)) (by simp);obtain ⟨p,rfl⟩:=Qf8.1 q;refine ⟨?_,fun s b=>b⟩;simp [Instr.indexAt,SV.den,C.den,dn,aj j,a,aJ f,ah,g]
    ·rename_i s o len c;simp only [Q.ret.injEq] at h;obtain ⟨rfl,rfl⟩:=h;have a:=hsc (0<=m/\m<(len:Int)) (by simp);refine ⟨?_,fun s b=>by simpa [SV.ids,C.ids] using b⟩;simp [Instr.indexAt,SV.den,C.den,dn,aj j,a,aJ f,eu,g]
    ·rename_i s len c;simp only [Q.ret.injEq] at h;obtain ⟨rfl,rfl⟩:=h;have a:=hsc (0<=m/\m<(len:Int)) (by simp);have O:=hsc (len<=c) (by simp);refine ⟨?_,fun s b=>by simpa [SV.ids,C.ids] using b⟩;have I:mA (β s) c=some ⟨β s,0,none⟩:=by unfold mA;rw [if_neg (by omega)]
     simp [Instr.indexAt,SV.den,C.den,dn,aj j,a,aJ f,eu,g,I]
    ·cases h
   ·cases h
  ·rename_i len e l;rw [r] at l;obtain rfl:=lN l;split at h
   ·rename_i u he;obtain ⟨y,A,B,f,D,E,F,g,G,H⟩:=aF (hT _ _ he);split at h
    ·rename_i s o;simp only [Q.ret.injEq] at h;obtain ⟨rfl,rfl⟩:=h;have a:=hsc (0<=m/\m<(len:Int)) (by simp);refine ⟨?_,fun s b=>by simpa [SV.ids,C.ids] using b⟩;simp [Instr.indexAt,Instr.sureAddr,SV.den,C.den,dn,aj j,a,aJ f,eu,g]
    ·rename_i n;simp only [Q.ret.injEq] at h;obtain ⟨rfl,rfl⟩:=h;have q:=hsc (n.isSome=true) (by simp);have a:=hsc (0<=m/\m<(len:Int)) (by simp);obtain ⟨p,rfl⟩:=Qf8.1 q;refine ⟨?_,fun s b=>b⟩;simp [Instr.indexAt,Instr.sureAddr,SV.den,C.den,dn,aj j,a,aJ f,ah,g]
    ·cases h
   ·cases h
  ·cases h
 ·cases h
theorem F2 {k:IntKind}{x:Int}{y:Nat}(code:BoundsCode)(h:0<=x/\x<=(y:Int)):(Instr.sliceBound (.int k x) y code).run P w=.ok x.toNat w:=by
 simp [Instr.sliceBound,dn,h]
theorem gH {len c:Nat}{lo hi mx:Option SV}{sc:List Prop}{l:Option Nat}{h m:Nat}(hq:mN len c lo hi mx=some (sc,l,h,m))(hsc:∀p∈sc,p) :
  (Instr.sliceBounds true len c (lo.map (SV.den β)) (hi.map (SV.den β)) (mx.map (SV.den β))).run P w=.ok (l.getD 0,h,m) w:=by
 unfold mN at hq
 cases ht:K1 c mx with
 | none=>rw [ht] at hq;cases hq
 | some t=>
  obtain ⟨g,a⟩:=t;rw [ht] at hq;dsimp only at hq
  cases hh:Ji len a hi mx with
  | none=>rw [hh] at hq;cases hq
  | some t=>
   obtain ⟨i,b⟩:=t;rw [hh] at hq;dsimp only at hq
   cases hl:Nc b lo with
   | none=>rw [hl] at hq;cases hq
   | some t=>
    obtain ⟨j,f⟩:=t;rw [hl] at hq;simp only [Qq2,Qb5] at hq;obtain ⟨rfl,rfl,rfl,rfl⟩:=hq
    have hm:((mx=none/\a=c)\/∃k x,mx=some (.c (.v (.int k x)))/\a=x.toNat/\(0<=x/\x<=(c:Int))):=by
     unfold K1 at ht;split at ht
     ·simp only [Qq2,Qb5] at ht;exact .inl ⟨rfl,ht.2.symm⟩
     ·rename_i k x;simp only [Qq2,Qb5] at ht;obtain ⟨rfl,rfl⟩:=ht;exact .inr ⟨k,x,rfl,rfl,hsc _ (by simp)⟩
     ·cases ht
    have d:((hi=none/\mx=none/\b=len)\/∃k x,hi=some (.c (.v (.int k x)))/\b=x.toNat/\(0<=x/\x<=(a:Int))):=by
     unfold Ji at hh;split at hh
     ·rename_i k x;simp only [Qq2,Qb5] at hh;obtain ⟨rfl,rfl⟩:=hh;exact .inr ⟨k,x,rfl,rfl,hsc _ (by simp)⟩
     ·simp only [Qq2,Qb5] at hh;exact .inl ⟨rfl,rfl,hh.2.symm⟩
     ·cases hh
    have e:((lo=none/\f=none)\/∃k x,lo=some (.c (.v (.int k x)))/\f=some x.toNat/\(0<=x/\x<=(b:Int))):=by
     unfold Nc at hl;split at hl
     ·simp only [Qq2,Qb5] at hl;exact .inl ⟨rfl,hl.2.symm⟩
     ·rename_i k x;simp only [Qq2,Qb5] at hl;obtain ⟨rfl,rfl⟩:=hl;exact .inr ⟨k,x,rfl,rfl,hsc _ (by simp)⟩
     ·cases hl
    clear ht hh hl hsc
    rcases hm with ⟨rfl,rfl⟩|⟨n,o,rfl,rfl,q⟩<;>rcases d with ⟨rfl,hx,rfl⟩|⟨k2,x2,rfl,rfl,b2⟩<;>rcases e with ⟨rfl,rfl⟩|⟨k3,x3,rfl,rfl,b3⟩ <;>
     (try cases hx) <;>
     simp only [Instr.sliceBounds,Option.map_none,Qg8,SV.den,C.den,Sem.run_bind,Sem.run_pure,Result.andThen_ok,Qs3,Qm9,Option.isSome_none,Option.isSome_some,if_true,Qz5,if_false] <;>
     (repeat (rw [F2 _ (by assumption)];simp only [Result.andThen_ok]))
theorem Er (hT:cI.ok P T){t:TypeId}{i:TI}(hi:kT P t=some i){e:TypeId}(hk:i.k=.slice e){ei:TI}(he:aC T e=some ei){x:SV}{lo hi' mx:Option SV}{sc:List Prop}{v:SV}
  (h:rk ei.size x lo hi' mx=.ret sc v)(hsc:∀p∈sc,p) :
  (Instr.sliceAt t (x.den β) (lo.map (SV.den β)) (hi'.map (SV.den β)) (mx.map (SV.den β))).run P w=.ok (v.den β) w/\∀s∈v.ids,s∈x.ids:=by
 obtain ⟨info,d,z,y,g,A,u,B,D,E⟩:=aF hi;obtain ⟨F,G,H,j,I,J,K,r,L,M⟩:=aF (hT _ _ he);rw [u] at hk;obtain rfl:=aV hk;have b:∀p:OA,p.map (fun x=>x.add 0)=p:=by intro p;cases p<;>simp [Addr.add]
 unfold rk at h;split at h
 ·rename_i N len c;split at h
  ·rename_i n q m a;simp only [Q.ret.injEq] at h;obtain ⟨rfl,rfl⟩:=h;have:=gH (P:=P) (w:=w) (β:=β) a hsc;refine ⟨?_,fun s f=>f⟩;simp only [Instr.sliceAt,Instr.slice,SV.den,C.den,Sem.run_bind,aj g,Result.andThen_ok,this,aJ j,Sem.run_pure,Qs3,Qd8,Nat.sub_zero,b,ite_self]
  ·rename_i n l q m a;simp only [Q.ret.injEq] at h;obtain ⟨rfl,rfl⟩:=h;have:=gH (P:=P) (w:=w) (β:=β) a hsc;refine ⟨?_,fun s f=>f⟩;simp only [Instr.sliceAt,Instr.slice,SV.den,C.den,Sem.run_bind,aj g,Result.andThen_ok,this,aJ j,Sem.run_pure,Qm9,r];rfl
  ·cases h
 ·rename_i s o len c;split at h
  ·rename_i n q m a;simp only [Q.ret.injEq] at h;obtain ⟨rfl,rfl⟩:=h;have:=gH (P:=P) (w:=w) (β:=β) a hsc;refine ⟨?_,fun s f=>by simpa [SV.ids,C.ids] using f⟩;simp only [Instr.sliceAt,Instr.slice,SV.den,C.den,Sem.run_bind,aj g,Result.andThen_ok,this,aJ j,Sem.run_pure,Qs3,Qd8,Nat.sub_zero,b,ite_self]
  ·rename_i n l q m a;simp only [Q.ret.injEq] at h;obtain ⟨rfl,rfl⟩:=h;have:=gH (P:=P) (w:=w) (β:=β) a hsc;refine ⟨?_,fun s f=>by simpa [SV.ids,C.ids] using f⟩;simp only [Instr.sliceAt,Instr.slice,SV.den,C.den,Sem.run_bind,aj g,Result.andThen_ok,this,aJ j,Sem.run_pure,Qm9,r];congr 2;unfold VZ;split<;>simp [eu]
  ·cases h
 ·rename_i s len c;split at h
  ·split at h
   ·rename_i n q m a;simp only [Q.ret.injEq] at h;obtain ⟨rfl,rfl⟩:=h
    have hm:m=c:=by
     unfold mN at a;simp only [K1] at a;split at a
     ·cases a
     ·split at a
      ·cases a
      ·simp only [Qq2,Qb5] at a;exact a.2.2.2.symm
    have:=gH (P:=P) (w:=w) (β:=β) a hsc;refine ⟨?_,fun s f=>by simpa [SV.ids,C.ids] using f⟩;simp only [Instr.sliceAt,Instr.slice,SV.den,C.den,Sem.run_bind,aj g,Result.andThen_ok,this,aJ j,Sem.run_pure,Qs3,Qd8,Nat.sub_zero,b,ite_self,hm]
   ·cases h
  ·cases h
 ·cases h
end Go.Eng
namespace Go.Eng
variable {P:Program} {T:cI} {n:Nat} {V0:View} {bw:Ds} {β0:Nat->Nat} {st:St} {β:Nat->Nat} {a:Act} {w:World} {V:View}
theorem dk {s:Sem Value}{v:Value}{w':World}(h:s.run P w=.ok v w'):(do pure (Next.value (←s)):Sem Next).run P w=.ok (.value v) w':=by
 simp [h]
theorem PU {s:Sem Unit}{w':World}(h:s.run P w=.ok () w'):(do s;pure Next.skip:Sem Next).run P w=.ok .skip w':=by
 simp [h]
theorem qP {f:Int->Int->Int}{k:IntKind}{g:Value->Value->Sem Value}(hg:∀x y k',(g (.int k x) (.int k' y))=pure (.int k (f x y))):∀(r:List SV)(x m:Int),foldI f k x r=some m ->
  ((r.map (SV.den β)).foldlM g (.int k x)).run P w=.ok (.int k m) w
 | [],x,m,h=>by simp only [foldI,Qq2] at h;subst h;rfl
 | y::r,x,m,h=>by
  unfold foldI at h;split at h
  ·rename_i e;cases e
  ·rename_i k' b r' e;simp only [Qy2] at e;obtain ⟨rfl,rfl⟩:=e;split at h
   ·simp only [Qb3,List.foldlM_cons,SV.den,C.den,hg,pure_bind];exact qP hg r _ m h
   ·cases h
  ·cases h
theorem FK:∀{cs:List C} {l:List (OA×Nat×Nat)} {k:Nat},FJ cs=some l->k<l.length->cs[k]?=some (.v (.slice (l.getD k (none,0,0)).1 (l.getD k (none,0,0)).2.1 (l.getD k (none,0,0)).2.2))
 | [],l,k,h,hk=>by cases h;cases hk
 | c::r,l,k,h,hk=>by
  unfold FJ at h;split at h
  ·cases ‹_=[]›
  ·rename_i p n d r' e;cases e;split at h
   ·rename_i l' hl';cases h
    cases k with
    | zero=>rfl
    | succ k=>simpa using FK hl' (by simpa using hk)
   ·cases h
  ·cases h
theorem rV {d:TypeDesc}(h:jO d=.str):d=.string:=by cases d<;>simp_all [jO]
theorem At {b:Builtin}{xs:List SV}{t:TypeId}{ts:List TypeId}{ty:TypeId}{cs:Array Bool}{i:TI}(hi:kT P t=some i){sc:List Prop}{v:SV}(h:ko b i.k xs=.ret sc v) :
  (builtin b (t::ts).toArray ty cs (xs.map (SV.den β)).toArray).run P w=.ok (.value (v.den β)) w/\v.ids=[]:=by
 obtain ⟨info,d,z,u,l,A,n,B,D,E⟩:=aF hi;unfold ko at h;split at h
 ·cases h
 ·rename_i x r;split at h
  ·split at h
   ·rename_i e p m c j;rw [n] at j;obtain rfl:=aV j;simp only [Q.ret.injEq] at h;obtain ⟨rfl,rfl⟩:=h;refine ⟨?_,rfl⟩;simp [builtin,Builtin.len_,aj l,SV.den,C.den,goInt]
   ·rename_i e s o m c j;rw [n] at j;obtain rfl:=aV j;simp only [Q.ret.injEq] at h;obtain ⟨rfl,rfl⟩:=h;refine ⟨?_,rfl⟩;simp [builtin,Builtin.len_,aj l,SV.den,C.den,goInt]
   ·rename_i e s m c j;rw [n] at j;obtain rfl:=aV j;simp only [Q.ret.injEq] at h;obtain ⟨rfl,rfl⟩:=h;refine ⟨?_,rfl⟩;simp [builtin,Builtin.len_,aj l,SV.den,C.den,goInt]
   ·rename_i s j;rw [n] at j;obtain rfl:=rV j;simp only [Q.ret.injEq] at h;obtain ⟨rfl,rfl⟩:=h;refine ⟨?_,rfl⟩;simp [builtin,Builtin.len_,aj l,SV.den,C.den,goInt]
   ·cases h
  ·split at h
   ·rename_i e p m c j;rw [n] at j;obtain rfl:=aV j;simp only [Q.ret.injEq] at h;obtain ⟨rfl,rfl⟩:=h;refine ⟨?_,rfl⟩;simp [builtin,Builtin.cap_,aj l,SV.den,C.den,goInt]
   ·rename_i e s o m c j;rw [n] at j;obtain rfl:=aV j;simp only [Q.ret.injEq] at h;obtain ⟨rfl,rfl⟩:=h;refine ⟨?_,rfl⟩;simp [builtin,Builtin.cap_,aj l,SV.den,C.den,goInt]
   ·rename_i e s m c j;rw [n] at j;obtain rfl:=aV j;simp only [Q.ret.injEq] at h;obtain ⟨rfl,rfl⟩:=h;refine ⟨?_,rfl⟩;simp [builtin,Builtin.cap_,aj l,SV.den,C.den,goInt]
   ·cases h
  ·split at h
   ·rename_i k a;split at h
    ·rename_i m hm;simp only [Q.ret.injEq] at h;obtain ⟨rfl,rfl⟩:=h;refine ⟨?_,rfl⟩;have:=qP (P:=P) (w:=w) (β:=β) (f:=bP) (k:=k) (g:=Builtin.min2) (fun x y q=>by simp [Builtin.min2,bP]) r a m hm;simp [builtin,Builtin.min_,SV.den,C.den] at this ⊢;rw [this];rfl
    ·cases h
   ·cases h
  ·split at h
   ·rename_i k a;split at h
    ·rename_i m hm;simp only [Q.ret.injEq] at h;obtain ⟨rfl,rfl⟩:=h;refine ⟨?_,rfl⟩;have:=qP (P:=P) (w:=w) (β:=β) (f:=bO) (k:=k) (g:=Builtin.max2) (fun x y q=>by simp [Builtin.max2,bO]) r a m hm;simp [builtin,Builtin.max_,SV.den,C.den] at this ⊢;rw [this];rfl
    ·cases h
   ·cases h
  ·cases h
theorem H3 {x:Bool×List C}{y:SV}(h:qN x=some y):ib β x=y.den β/\∀s∈y.ids,s∈x.2.flatMap C.ids:=by
 obtain ⟨b,cs⟩:=x
 cases b with
 | true=>simp only [qN,Qq2] at h;subst h;exact ⟨rfl,fun s a=>a⟩
 | false=>
  match cs,h with
  | [],h=>simp [qN] at h
  | [c],h=>simp only [qN,Qq2] at h;subst h;exact ⟨rfl,fun s a=>by simpa [SV.ids] using a⟩
  | _::_::_,h=>simp [qN] at h
theorem su:∀(xs:List SV)(ss:List Nat),vD xs=some ss->xs.map (SV.den β)=(ss.map fun s=>Value.pointer (some ⟨β s,0,none⟩))/\∀s∈ss,∃x∈xs,s∈x.ids
 | [],ss,h=>by simp only [vD,Qq2] at h;subst h;exact ⟨rfl,fun s hs=>by cases hs⟩
 | x::r,ss,h=>by
  unfold vD at h;split at h
  ·rename_i e;cases e
  ·rename_i s r' e;simp only [Qy2] at e;obtain ⟨rfl,rfl⟩:=e;split at h
   ·rename_i l d;simp only [Qq2] at h;subst h;obtain ⟨f,g⟩:=su r l d;refine ⟨by simp [f,SV.den,C.den],fun b a=>?_⟩;rcases Qq4.1 a with rfl|a
    ·exact ⟨.c (.ptr b 0),by simp,by simp [SV.ids,C.ids]⟩
    ·obtain ⟨y,i,a⟩:=g b a;exact ⟨y,Qq8 _ i,a⟩
   ·cases h
  ·cases h
theorem vA (hM:Mod n V0 bw β0 st β a w V){x:Option Operand}{v:Option SV}(h:An st.aY x=some v):x.map a.eval=v.map (SV.den β):=by
 cases x with
 | none=>simp only [An,Qq2] at h;subst h;rfl
 | some o=>
  simp only [An] at h;split at h
  ·rename_i y b;simp only [Qq2] at h;subst h;simp [hM.eval b]
  ·cases h
theorem mL {x y:SV}(hx:Live st x)(h:∀s∈y.ids,s∈x.ids):Live st y:=fun s a=>hx s (h s a)
theorem kY {bx:Nat->Option aP}{t:TypeId}{x:SV}:kX T bx t x=.fail\/∃sc s b,kX T bx t x=.tu sc s b:=by
 unfold kX;split<;>(try split)<;>(try split)<;>(try split)<;>(try split)<;>(try split)<;>first|exact .inl rfl|exact .inr ⟨_,_,_,rfl⟩
theorem Eo {bx:Nat->Option aP}{t:TypeId}{x:SV}{sc:List Prop}{v:SV}(h:kX T bx t x=.ret sc v):False:=by
 rcases kY (T:=T) (bx:=bx) (t:=t) (x:=x) with e|⟨_,_,_,e⟩<;>rw [e] at h<;>cases h
theorem Cs {bx:Nat->Option aP}{e:TypeId}{ei:TI}{b x:SV}{sc:List Prop}{v:SV}(h:bX bx e ei b x=.ret sc v):False:=by
 unfold bX at h;split at h
 ·cases h
 ·split at h
  ·cases h
  ·dsimp only at h;split at h
   ·cases h
   ·split at h
    ·cases h
    ·split at h
     ·split at h<;>cases h
     ·cases h
    ·split at h
     ·split at h<;>cases h
     ·cases h
    ·cases h
theorem GV (hT:cI.ok P T)(hM:Mod n V0 bw β0 st β a w V){o:Oper}{sc:List Prop}{v:SV}(h:aK T st.aY st.boxes o.op=.ret sc v)(hsc:∀p∈sc,p) :
  (execOp a.eval o).run P w=.ok (.value (v.den β)) w/\Live st v:=by
 unfold aK at h;split at h
 case h_1 op x hop=>
  split at h
  ·rename_i y hy;simp only [Q.ret.injEq] at h;obtain ⟨rfl,rfl⟩:=h;refine ⟨?_,hM.live hy⟩;simp only [execOp,hop,hM.eval hy];rfl
  ·cases h
 case h_2 op x hop=>
  split at h
  ·rename_i y hy;simp only [Q.ret.injEq] at h;obtain ⟨rfl,rfl⟩:=h;refine ⟨?_,hM.live hy⟩;simp only [execOp,hop,hM.eval hy];rfl
  ·cases h
 case h_3 op c x y hop=>
  split at h
  ·rename_i hc;split at h
   ·rename_i z hz;simp only [Q.ret.injEq] at h;obtain ⟨rfl,rfl⟩:=h;refine ⟨?_,hM.live hz⟩;simp [execOp,hop,hM.eval hz,hM.eval hc,SV.den,C.den,asBool]
   ·cases h
  ·rename_i hc;split at h
   ·rename_i z hz;simp only [Q.ret.injEq] at h;obtain ⟨rfl,rfl⟩:=h;refine ⟨?_,hM.live hz⟩;simp [execOp,hop,hM.eval hz,hM.eval hc,SV.den,C.den,asBool]
   ·cases h
  ·cases h
 case h_4=>split at h<;>cases h
 case h_5=>
  split at h
  ·split at h<;>cases h
  ·cases h
 case h_6 op t parts hop=>
  split at h
  ·rename_i i ps hi hps;have hi:=hT _ _ hi;split at h
   ·rename_i fs hk;split at h
    ·rename_i pl hpl;split at h
     ·rename_i cs hcs;simp only [Q.ret.injEq] at h;obtain ⟨rfl,rfl⟩:=h;obtain ⟨h1,h2⟩:=zI hT hM hi hk hps hpl hcs hsc;refine ⟨?_,h2⟩;simp only [execOp,hop];exact dk h1
     ·cases h
    ·cases h
   ·rename_i m e hk;split at h
    ·rename_i ei BZ;split at h
     ·rename_i cs hcs;simp only [Q.ret.injEq] at h;obtain ⟨rfl,rfl⟩:=h;obtain ⟨h1,h2⟩:=Bs hT hM hi hk hps BZ hcs hsc;refine ⟨?_,h2⟩;simp only [execOp,hop];exact dk h1
     ·cases h
    ·cases h
   ·cases h
  ·cases h
 case h_7=>
  split at h
  ·split at h
   ·split at h
    ·split at h
     ·split at h<;>cases h
     ·cases h
    ·cases h
   ·cases h
  ·cases h
 case h_8 op t x hop=>
  split at h
  ·rename_i i y hi hy;obtain ⟨h1,h2⟩:=zk hM (hT _ _ hi) h;refine ⟨?_,h2⟩;simp only [execOp,hop,hM.eval hy];exact dk h1
  ·cases h
 case h_9=>
  split at h
  ·unfold fS at h;split at h
   ·split at h
    ·split at h
     ·split at h<;>cases h
     ·split at h<;>cases h
     ·split at h
      ·cases h
      ·split at h<;>cases h
     ·cases h
    ·cases h
   ·cases h
  ·cases h
 case h_10 op x hop=>
  split at h
  ·rename_i s o hx;simp only [Q.ret.injEq] at h;obtain ⟨rfl,rfl⟩:=h;refine ⟨?_,hM.live hx⟩;simp [execOp,hop,hM.eval hx,SV.den,C.den]
  ·rename_i p hx;simp only [Q.ret.injEq] at h;obtain ⟨rfl,rfl⟩:=h;obtain ⟨ad,rfl⟩:=Qf8.1 (hsc (p.isSome=true) (by simp));refine ⟨?_,hM.live hx⟩;simp [execOp,hop,hM.eval hx,SV.den,C.den]
  ·cases h
 case h_11 op W8 xt x y yt hop=>
  split at h
  ·rename_i p q hp hq
   have key:(q=.v .nilIface->∃c,y=.const c)->As T W8 xt p q=.ret sc v->(execOp a.eval o).run P w=.ok (.value (v.den β)) w/\Live st v:=by
    intro hc h;obtain ⟨h1,h2⟩:=Jh (P:=P) (w:=w) (β:=β) hT (ox:=x) (oy:=y) h hsc hc;refine ⟨?_,bN h2⟩;simp only [execOp,hop,hM.eval hp,hM.eval hq];exact dk h1
   split at h
   ·split at h
    ·exact key (fun _=>⟨_,rfl⟩) h
    ·cases h
   ·rename_i hne;exact key (fun e=>absurd e hne) h
  ·cases h
 case h_12 op t x hop=>
  split at h
  ·rename_i hx;simp only [Q.ret.injEq] at h;obtain ⟨rfl,rfl⟩:=h;refine ⟨?_,bN rfl⟩;simp [execOp,hop,hM.eval hx,SV.den,C.den,Op.unary]
  ·rename_i hx;simp only [Q.ret.injEq] at h;obtain ⟨rfl,rfl⟩:=h;refine ⟨?_,bN rfl⟩;simp [execOp,hop,hM.eval hx,SV.den,C.den,Op.unary]
  ·rename_i b hx;simp only [Q.ret.injEq] at h;obtain ⟨rfl,rfl⟩:=h;refine ⟨?_,bN rfl⟩;simp [execOp,hop,hM.eval hx,SV.den,C.den,Op.unary]
  ·cases h
 case h_13 op t x hop=>
  split at h
  ·rename_i k m hx;simp only [Q.ret.injEq] at h;obtain ⟨rfl,rfl⟩:=h;refine ⟨?_,bN rfl⟩;simp [execOp,hop,hM.eval hx,SV.den,C.den,Op.unary,Op.intBits,aU]
  ·cases h
 case h_14 op t x hop=>
  split at h
  ·rename_i k m hx;simp only [Q.ret.injEq] at h;obtain ⟨rfl,rfl⟩:=h;refine ⟨?_,bN rfl⟩;simp [execOp,hop,hM.eval hx,SV.den,C.den,Op.unary,Op.intArith]
  ·cases h
 case h_15 op src dst x hop=>
  split at h
  ·rename_i i0 i k m hi0 hi hx;obtain ⟨LJ,d0,z0,g1,g2,-⟩:=aF (hT _ _ hi0);obtain ⟨info,d,z,h1,h2,h3,h4,h5,h6,h7⟩:=aF (hT _ _ hi);split at h
   ·rename_i k' hk;rw [h4] at hk;obtain rfl:=BL hk;simp only [Q.ret.injEq] at h;obtain ⟨rfl,rfl⟩:=h;refine ⟨?_,bN rfl⟩;simp only [execOp,hop,hM.eval hx];refine dk ?_;simp only [convert,Sem.run_bind,aj g2,aj h2,Result.andThen_ok,SV.den,C.den];cases d0<;>rfl
   ·cases h
  ·cases h
 case h_16 op f first caps hop=>
  split at h
  ·rename_i hf;split at h
   ·rename_i xs hxs;split at h
    ·rename_i ss hss;simp only [Q.ret.injEq] at h;obtain ⟨rfl,rfl⟩:=h;obtain ⟨h1,h2⟩:=eY hM _ _ hxs;obtain ⟨h3,h4⟩:=su (β:=β) _ _ hss;refine ⟨?_,fun s hs=>?_⟩
     ·have e1:first=#[]:=by apply Qb9;exact hf
      have e2:caps.map a.eval=(ss.map fun s=>Value.pointer (some ⟨β s,0,none⟩)).toArray:=by
       apply Qb9;rw [Qm8,h1,h3]
      simp [execOp,hop,Instr.makeFunc,e1,e2,SV.den,C.den]
     ·obtain ⟨x,hx,hs'⟩:=h4 s hs;exact h2 x hx s hs'
    ·cases h
   ·cases h
  ·cases h
 case h_17=>
  split at h
  ·unfold zm at h;split at h
   ·split at h
    ·split at h
     ·split at h
      ·split at h<;>cases h
      ·cases h
     ·cases h
    ·cases h
   ·cases h
  ·cases h
 case h_18 op t x lo hi mx hop=>
  split at h
  ·rename_i i xv l h' m hi' hx hl hh hm;have hi':=hT _ _ hi';split at h
   ·rename_i e hk;split at h
    ·rename_i ei BZ;obtain ⟨h1,h2⟩:=Er (P:=P) (w:=w) (β:=β) hT hi' hk BZ h hsc;refine ⟨?_,mL (hM.live hx) h2⟩;simp only [execOp,hop,hM.eval hx,vA hM hl,vA hM hh,vA hM hm];exact dk h1
    ·cases h
   ·cases h
  ·cases h
 case h_19 op t x f hop=>
  split at h
  ·rename_i i xv hi hx;have hi:=hT _ _ hi;split at h
   ·rename_i fs hk;split at h
    ·rename_i ft off hf;split at h
     ·rename_i fi hfi;split at h
      ·cases h
      ·rename_i hs;have hs:fi.size≠0:=fun e=>hs (beq_eq.2 e);split at h
       ·rename_i s o';simp only [Q.ret.injEq] at h;obtain ⟨rfl,rfl⟩:=h;have:=rX (w:=w) hT hi hk hf hfi hs ⟨β s,o',none⟩;rw [eu] at this;refine ⟨?_,mL (hM.live hx) (fun s hs=>by simpa [SV.ids,C.ids] using hs)⟩;simp only [execOp,hop,hM.eval hx];exact dk this
       ·rename_i p;simp only [Q.ret.injEq] at h;obtain ⟨rfl,rfl⟩:=h;obtain ⟨ad,rfl⟩:=Qf8.1 (hsc (p.isSome=true) (by simp));have:=rX (w:=w) hT hi hk hf hfi hs ad;refine ⟨?_,bN rfl⟩;simp only [execOp,hop,hM.eval hx];exact dk this
       ·cases h
     ·cases h
    ·cases h
   ·cases h
  ·cases h
 case h_20 op t x f hop=>
  split at h
  ·rename_i i cs hi hx;have hi:=hT _ _ hi;split at h
   ·rename_i fs hk;split at h
    ·rename_i ft off hf;split at h
     ·rename_i fi hfi;obtain ⟨g1,g2⟩:=Gn (P:=P) (w:=w) (β:=β) hT hi hk hf hfi (cs:=cs)
      have hagg:qv fi.k=true->Q.ret [] (.agg ((cs.drop off).take fi.size))=.ret sc v->(execOp a.eval o).run P w=.ok (.value (v.den β)) w/\Live st v:=by
       intro hk' h;simp only [Q.ret.injEq] at h;obtain ⟨rfl,rfl⟩:=h;refine ⟨?_,mL (hM.live hx) fun s hs=>?_⟩
       ·simp only [execOp,hop,hM.eval hx];exact dk (g1 hk')
       ·obtain ⟨c,hc,hs⟩:=Qw5.1 hs;exact gD (Qf5 (Qm7 hc)) hs
      split at h
      ·rename_i hk';exact hagg (by rw [hk'];rfl) h
      ·rename_i hk';exact hagg (by rw [hk'];rfl) h
      ·rename_i hk1 hk2
       have hk':qv fi.k=false:=by
        cases hik:fi.k<;>first|rfl|exact absurd hik (hk1 _)|exact absurd hik (hk2 _ _)
       split at h
       ·rename_i c hc;simp only [Q.ret.injEq] at h;obtain ⟨rfl,rfl⟩:=h;refine ⟨?_,mL (hM.live hx) fun s hs=>?_⟩
        ·simp only [execOp,hop,hM.eval hx];exact dk (g2 c hk' hc)
        ·exact gD (Qv1 hc) hs
       ·cases h
     ·cases h
    ·cases h
   ·cases h
  ·cases h
 case h_21 op t x ix hop=>
  split at h
  ·rename_i i xv iv hi hx hix;obtain ⟨h1,h2⟩:=vG (P:=P) (w:=w) (β:=β) hT (hT _ _ hi) h hsc;refine ⟨?_,mL (hM.live hx) h2⟩;simp only [execOp,hop,hM.eval hx,hM.eval hix];exact dk h1
  ·cases h
 case h_22 op x j hop=>
  split at h
  ·rename_i xs hx;split at h
   ·rename_i y hy;split at h
    ·rename_i z hz;simp only [Q.ret.injEq] at h;obtain ⟨rfl,rfl⟩:=h;obtain ⟨h1,h2⟩:=H3 (β:=β) hz;refine ⟨?_,mL (hM.live hx) fun s hs=>Qw5.2 ⟨y,Qv1 hy,h2 s hs⟩⟩;have:(xs.map (ib β))[j]?=some (z.den β):=by rw [Qc9,hy];simp [h1]
     simp [execOp,hop,hM.eval hx,SV.den,Instr.extract,hy,h1]
    ·cases h
   ·cases h
  ·cases h
 case h_23 op c hop=>
  split at h
  ·split at h
   ·split at h
    ·split at h
     ·split at h
      ·exact (Cs h).elim
      ·cases h
     ·cases h
    ·cases h
   ·cases h
  ·split at h
   ·exact (Eo h).elim
   ·cases h
  ·rename_i b hb hb2 hc;split at h
   ·rename_i xs t ts hxs hts;split at h
    ·rename_i i hi;obtain ⟨h1,h2⟩:=eY hM _ _ hxs;have e1:c.argTypes=(t::ts).toArray:=by apply Qb9;exact hts
     have e2:c.args.map a.eval=(xs.map (SV.den β)).toArray:=by apply Qb9;rw [Qm8];exact h1
     obtain ⟨k1,k2⟩:=At (P:=P) (w:=w) (β:=β) (ts:=ts) (ty:=o.type) (cs:=c.args.map fun|.const _=>true|_=>false) (hT _ _ hi) h;refine ⟨?_,bN k2⟩;simp only [execOp,hop,resolve,hc,pure_bind,invoke,e1,e2];exact k1
    ·cases h
   ·cases h
  ·cases h
 case h_24 op t x ix hop=>
  split at h
  ·rename_i i s k m hi hx hix;split at h
   ·rename_i hk;obtain ⟨info,d,z,h1,h2,h3,h4,h5,h6,h7⟩:=aF (hT _ _ hi);rw [h4] at hk;obtain rfl:=rV hk;simp only [Q.ret.injEq] at h;obtain ⟨rfl,rfl⟩:=h;have hb:=hsc _ (Qw3.2 rfl);refine ⟨?_,bN rfl⟩;have hlt:m.toNat<s.size:=by omega
    have e:s.data.toList.getD m.toNat 0=s[m.toNat]'hlt:=by
     have:s.data.toList[m.toNat]?=some (s[m.toNat]'hlt):=by
      rw [Array.getElem?_toList];exact Array.getElem?_eq_getElem (by simpa using hlt)
     rw [Qw6,this];rfl
    simp only [execOp,hop,hM.eval hx,hM.eval hix,SV.den,C.den];refine dk ?_;rw [run_index_string (w:=w) t s k m h2,dif_pos hb,e]
   ·cases h
  ·rename_i i cs k m hi hx hix;unfold kq at h;split at h
   ·rename_i n e hk;split at h
    ·rename_i ei l BZ hl;split at h
     ·rename_i e2 hek;split at h
      ·rename_i hb;rw [Qx1] at hb;simp only [Q.ret.injEq] at h;obtain ⟨rfl,rfl⟩:=h;have hm:=hsc _ (Qw3.2 rfl);obtain ⟨info,d,z,h1,h2,h3,h4,h5,h6,h7⟩:=aF (hT _ _ hi);rw [h4] at hk;obtain rfl:=lN hk;obtain ⟨gz,ed,ez,e1,e2,e3,e4,e5,e6,e7⟩:=aF (hT _ _ BZ);refine ⟨?_,bN rfl⟩;have b1:=beq_eq.1 hb.1;have b2:=beq_eq.1 hb.2;have hc:=FK hl (show m.toNat<l.length by omega);have hp:=(Cq (w:=w) (β:=β) (hT _ _ BZ) cs m.toNat).2 _ (by rw [hek];rfl) hc;simp only [execOp,hop,hM.eval hx,hM.eval hix];refine dk ?_;have es:m.toNat*gz.size=m.toNat:=by rw [←e5,b1,Qk0]
       simp only [Instr.index,SV.den,C.den,dn,Sem.run_bind,Result.andThen_ok,aj h2,Sem.run_ite,if_pos hm,aJ e1,es];exact hp
      ·cases h
     ·cases h
    ·cases h
   ·cases h
  ·cases h
 case h_25 op t x hop=>
  split at h
  ·rename_i i y hi hx;obtain ⟨info,d,z,h1,h2,h3,h4,h5,h6,h7⟩:=aF (hT _ _ hi);unfold vF at h;split at h
   ·cases h
   ·rename_i hk;split at h
    ·rename_i fc XX;simp only [Q.ret.injEq] at h;obtain ⟨rfl,rfl⟩:=h;refine ⟨?_,bN rfl⟩;simp only [execOp,hop,hM.eval hx];refine dk ?_;have hd:∀ms,d≠.interface ms:=fun ms e=>by rw [e] at h4;exact hk h4
     have e2:y.den β=y.den fun _=>0:=SV.bB fun s hs=>by rw [fc] at hs;cases hs
     show (Instr.makeInterface t (y.den β)).run P w=.ok (.iface t (y.den fun _=>0)) w;rw [e2];generalize y.den (fun _=>0)=u;simp only [Instr.makeInterface,Sem.run_bind,aj h2,Result.andThen_ok];cases d<;>first|rfl|exact absurd rfl (hd _)
    ·cases h
  ·cases h
 case h_26=>cases h
end Go.Eng
