import Derived.Test.YtapnijmlbakblaaGreatDoorZJ1
set_option linter.unusedVariables false
open Go.IntKind (i64 u64 u32)
namespace Go.Eng
variable {P:Program} {T:cG} {n:Nat} {V0:View} {bu:Dn} {β0:Nat->Nat} {st:St} {β:Nat->Nat} {a:Act} {w:World} {V:View}
theorem cS:∀(sc:List Prop)(k:Prop),zC sc k↔(∀p∈sc,p)/\k
 | [],k=>by simp [zC]
 | p::r,k=>by
  simp only [zC,cS r k,Qq6];constructor
  ·rintro ⟨h1,h2,h3⟩;exact ⟨fun q hq=>by rcases hq with rfl|hq;exact h1;exact h2 q hq,h3⟩
  ·rintro ⟨h1,h2⟩;exact ⟨h1 p (.inl rfl),fun q hq=>h1 q (.inr hq),h2⟩
theorem aC {t:TypeId}{i:TI}(h:kP P t=some i):∃info d z,P.info? t=some info/\P.underlying t=some d/\info.zero=some z/\i.k=jH d/\i.size=info.size/\i.bytes=info.bytes/\i.zero=z.cells.toList.map C.ofConst:=by
 unfold kP at h;split at h
 ·rename_i info d a b;split at h
  ·rename_i z c;simp only [Qq4] at h;subst h;exact ⟨info,d,z,a,b,c,rfl,rfl,rfl,rfl⟩
  ·cases h
 ·cases h
theorem BI (β:Nat->Nat)(y:Value):(C.ofConst y).den β=y:=by
 unfold C.ofConst;split<;>rfl
theorem Cc (β:Nat->Nat)(l:List Value):(l.map C.ofConst).map (C.den β)=l:=by
 induction l with
 | nil=>rfl
 | cons y r ih=>simp only [Qb9,BI,ih]
theorem BX (y:Value):(C.ofConst y).ids=[]:=by unfold C.ofConst;split<;>rfl
theorem Ag (l:List Value):(l.map C.ofConst).flatMap C.ids=[]:=by
 induction l with
 | nil=>rfl
 | cons y r ih=>simp [BX]
theorem aj {t:TypeId}{d:TypeDesc}(h:P.underlying t=some d)(w:World):(underlying t).run P w=.ok d w:=by simp [underlying,h]
theorem jF {t:TypeId}{i:TypeInfo}(h:P.info? t=some i)(w:World):(typeInfo t).run P w=.ok i w:=by simp [typeInfo,h]
theorem aI {t:TypeId}{i:TypeInfo}(h:P.info? t=some i)(w:World):(sizeOf t).run P w=.ok i.size w:=by simp [sizeOf,jF h]
theorem il {t:TypeId}{i:TypeInfo}{z:Value}(h:P.info? t=some i)(hz:i.zero=some z)(w:World):(zeroValue t).run P w=.ok z w:=by
 simp [zeroValue,jF h,hz]
def pW:TK->Bool
 | .struct _|.arr _ _=>true
 | _=>false
theorem fS {t:TypeId}{d:TypeDesc}(h:P.underlying t=some d)(w:World):(isAgg t).run P w=.ok (pW (jH d)) w:=by
 simp only [isAgg,Sem.run_bind,aj h,Result.andThen_ok];cases d<;>rfl
def Live (st:St)(x:SV):Prop:=∀s∈x.ids,∃b,st.boxes s=some b
theorem zc {k k':IntKind}(h:uT k k'=true):k=k':=by cases k<;>cases k'<;>simp_all [uT]
theorem D5 {op:BinOp}{k:IntKind}{x y:Int}{sc:List Prop}{v:SV}{xt:TypeId}(h:lP op k x y=.ret sc v)(hsc:∀p∈sc,p) :
  (binOp op xt (.int k x) (.int k y)).run P w=.ok (v.den β) w/\v.ids=[]:=by
 cases op<;>simp only [lP,Q.ret.injEq] at h<;>obtain ⟨rfl,rfl⟩:=h <;>
  simp only [Qq6,Qk1,or_false,forall_eq,false_imp_iff,implies_true] at hsc <;>
  refine ⟨?_,rfl⟩ <;>
  simp [binOp,Op.intArith,Op.intDiv,Op.intBits,Op.intCmp,Op.shift,SV.den,C.den,aV,hsc]
 all_goals (try (intro h;omega))
theorem zt {op:BinOp}{k k':IntKind}{x y:Int}{sc:List Prop}{v:SV}{xt:TypeId}(hop:op=.shl\/op=.shr)(h:lP op k x y=.ret sc v)(hsc:∀p∈sc,p) :
  (binOp op xt (.int k x) (.int k' y)).run P w=.ok (v.den β) w/\v.ids=[]:=by
 rcases hop with rfl|rfl<;>simp only [lP,Q.ret.injEq] at h<;>obtain ⟨rfl,rfl⟩:=h <;>
  simp only [Qq6,Qk1,or_false,forall_eq] at hsc <;>
  refine ⟨?_,rfl⟩ <;>
  simp [binOp,Op.shift,SV.den,C.den]<;>(intro h;omega)
section eqs
variable {t:TypeId} (d:Nat)
theorem Gf (h:P.underlying t=some .bool)(x y:Bool):(Op.equalIn (d+1) t (.bool x) (.bool y)).run P w=.ok (x==y) w:=by
 simp [Op.equalIn,aj h]
theorem yN {e:TypeId}(h:P.underlying t=some (.pointer e))(p:OA):(Op.equalIn (d+1) t (.pointer p) (.pointer none)).run P w=.ok p.isNone w:=by
 cases p<;>simp [Op.equalIn,aj h]
theorem nJ {e:TypeId}(h:P.underlying t=some (.slice e))(p:OA)(n c m k:Nat):(Op.equalIn (d+1) t (.slice p n c) (.slice none m k)).run P w=.ok p.isNone w:=by
 cases p<;>simp [Op.equalIn,aj h]
theorem uF {ms:Array (String×TypeId)}(h:P.underlying t=some (.interface ms)){x:Value}(hx:IsIface x):(Op.equalIn (d+1) t x .nilIface).run P w=.ok (lQ x) w:=by
 rcases hx with rfl|⟨u,v,rfl⟩<;>simp [Op.equalIn,aj h,lQ]
end eqs
theorem ju {t:TypeId}{x y:Value}{r:Bool}(h:∀d,(Op.equalIn (d+1) t x y).run P w=.ok r w):(Op.equal t x y).run P w=.ok r w:=h 9999
theorem Bq {op:BinOp}{xt:TypeId}{x y:Bool}(ht:P.underlying xt=some .bool)(hop:op=.eql\/op=.neq) :
  (binOp op xt (.bool x) (.bool y)).run P w=.ok (.bool (if op=.eql then x==y else !(x==y))) w:=by
 have:=ju (w:=w) fun d=>Gf d ht x y;rcases hop with rfl|rfl<;>simp only [binOp,Sem.run_bind,this,Result.andThen_ok,Sem.run_pure]<;>rfl
theorem yv {c:C}{b:Bool}(h:c.bool?=some b):c.den β=.bool b/\c.ids=[]:=by
 cases c with
 | v x=>cases x<;>simp_all [C.bool?,C.den,C.ids]
 | _=>simp_all [C.bool?,C.den,C.ids]
theorem BK {d:TypeDesc}{k:IntKind}(h:jH d=.int k):d=.int k:=by cases d<;>simp_all [jH]
theorem zZ {d:TypeDesc}(h:jH d=.bool):d=.bool:=by cases d<;>simp_all [jH]
theorem BL {d:TypeDesc}{e:TypeId}(h:jH d=.ptr e):d=.pointer e:=by cases d<;>simp_all [jH]
theorem aW {d:TypeDesc}{e:TypeId}(h:jH d=.slice e):d=.slice e:=by cases d<;>simp_all [jH]
theorem xo {d:TypeDesc}(h:jH d=.iface):∃ms,d=.interface ms:=by cases d<;>simp_all [jH]
theorem iE {d:TypeDesc}{fs:List (TypeId×Nat)}(h:jH d=.struct fs):∃gs,d=.struct gs/\fs=gs.toList.map fun f=>(f.type,f.offset):=by
 cases d<;>simp_all [jH]
theorem lI {d:TypeDesc}{m:Nat}{e:TypeId}(h:jH d=.arr m e):d=.array m e:=by cases d<;>simp_all [jH]
theorem iq {t:TypeId}{x y:Value}{r:Bool}(neg:Bool)(h:(Op.equal t x y).run P w=.ok r w)
  (hx:(∃p,x=.pointer p/\y=.pointer none)\/(∃p n c m k,x=.slice p n c/\y=.slice none m k)\/(IsIface x/\y=.nilIface)) :
  (binOp (if neg then .neq else .eql) t x y).run P w=.ok (.bool (if neg then !r else r)) w:=by
 rcases hx with ⟨p,rfl,rfl⟩|⟨p,n,c,m,k,rfl,rfl⟩|⟨hx,rfl⟩
 ·cases p<;>cases neg<;>simp only [Qz9,if_false,if_true,binOp,Sem.run_bind,h,Result.andThen_ok,Sem.run_pure]
 ·cases neg<;>simp only [Qz9,if_false,if_true,binOp,Sem.run_bind,h,Result.andThen_ok,Sem.run_pure]
 ·rcases hx with rfl|⟨u,v,rfl⟩<;>cases neg<;>simp only [Qz9,if_false,if_true,binOp,Sem.run_bind,h,Result.andThen_ok,Sem.run_pure]
theorem nK {op:BinOp}{t:TypeId}{x y:Operand}{u v:Value}(h:(∃p,u=.pointer p)\/(∃p n c,u=.slice p n c)\/(∃k n,u=.int k n)\/(∃b,u=.bool b)\/∃c,y=.const c)(hn:v=.nilIface->∃c,y=.const c)(hu:∀cs,u≠.agg cs) :
  (eqGuard op t x y u v).run P w=.ok () w:=by
 have key:∀(m:Sem Unit),m=(match (generalizing:=false) u,v with
   | .nilIface,.nilIface=>do
    if (match (generalizing:=false) x with|.const _=>true|_=>false)||(match (generalizing:=false) y with|.const _=>true|_=>false) then return
    if ← Op.eqGuardIn Op.maxDepth t u v then unsupported (.noEntry "binop/eql: two nil values of an interface type with methods, neither of them the literal nil")
   | .agg _,.agg _=>do
    if !(←program).eqGuardType (←program).depth t then return
    if ← Op.eqGuardIn Op.maxDepth t u v then unsupported (.noEntry "binop/eql: two nil values of an interface type with methods, in a part of a struct or an array")
   | _,_=>pure ())->m.run P w=.ok () w:=by
  intro m hm;rw [hm];clear hm;revert hn hu;split
  ·intro hn _;obtain ⟨c,rfl⟩:=hn rfl;simp
  ·rename_i cs _;intro _ hu;exact absurd rfl (hu cs)
  ·intro _ _;rfl
 cases op<;>first|rfl|exact key _ rfl
theorem I0 {xt:TypeId}{i:TI}(hi:kP P xt=some i){x y:C}(neg:Bool){sc:List Prop}{v:SV}
  (h:Ax neg i.k x y=.ret sc v)(hsc:∀p∈sc,p) :
  (binOp (if neg then .neq else .eql) xt (x.den β) (y.den β)).run P w=.ok (v.den β) w/\v.ids=[] /\
  ((∃p,x.den β=.pointer p)\/(∃p n c,x.den β=.slice p n c)\/y.den β=.nilIface)/\(y.den β=.nilIface->y=.v .nilIface)/\(∀cs,x.den β≠.agg cs):=by
 obtain ⟨info,d,z,j,b,l,g,-⟩:=aC hi;unfold Ax at h;split at h
 ·rename_i e a;rw [g] at a;obtain rfl:=BL a;split at h
  ·split at h
   ·simp only [Q.ret.injEq] at h;obtain ⟨rfl,rfl⟩:=h;refine ⟨?_,by cases neg<;>rfl,.inl ⟨_,rfl⟩,by simp [C.den],by simp [C.den]⟩;rename_i s o;have:=iq (w:=w) neg (ju fun d=>yN d b (some ⟨β s,o,none⟩)) (.inl ⟨_,rfl,rfl⟩);cases neg<;>exact this
   ·simp only [Q.ret.injEq] at h;obtain ⟨rfl,rfl⟩:=h;refine ⟨?_,rfl,.inl ⟨_,rfl⟩,by simp [C.den],by simp [C.den]⟩;exact iq (w:=w) neg (ju fun d=>yN d b _) (.inl ⟨_,rfl,rfl⟩)
   ·cases h
  ·cases h
 ·rename_i e a;rw [g] at a;obtain rfl:=aW a;split at h
  ·split at h
   ·simp only [Q.ret.injEq] at h;obtain ⟨rfl,rfl⟩:=h;refine ⟨?_,by cases neg<;>rfl,.inr (.inl ⟨_,_,_,rfl⟩),by simp [C.den],by simp [C.den]⟩;rename_i m k _ s o n c;have:=iq (w:=w) neg (ju fun d=>nJ d b (some ⟨β s,o,none⟩) n c m k) (.inr (.inl ⟨_,_,_,_,_,rfl,rfl⟩));cases neg<;>exact this
   ·simp only [Q.ret.injEq] at h;obtain ⟨rfl,rfl⟩:=h;refine ⟨?_,rfl,.inr (.inl ⟨_,_,_,rfl⟩),by simp [C.den],by simp [C.den]⟩;rename_i m k _ s n c;have:=iq (w:=w) neg (ju fun d=>nJ d b (mA (β s) c) n c m k) (.inr (.inl ⟨_,_,_,_,_,rfl,rfl⟩));have e:(mA (β s) c).isNone=Nat.beq c 0:=by cases c<;>rfl
    rw [e] at this;exact this
   ·simp only [Q.ret.injEq] at h;obtain ⟨rfl,rfl⟩:=h;refine ⟨?_,rfl,.inr (.inl ⟨_,_,_,rfl⟩),by simp [C.den],by simp [C.den]⟩;exact iq (w:=w) neg (ju fun d=>nJ d b _ _ _ _ _) (.inr (.inl ⟨_,_,_,_,_,rfl,rfl⟩))
   ·cases h
  ·cases h
 ·rename_i a;rw [g] at a;obtain ⟨ms,rfl⟩:=xo a;split at h
  ·split at h
   ·simp only [Q.ret.injEq] at h;obtain ⟨rfl,rfl⟩:=h;have f:=hsc _ (Qx0.2 rfl);refine ⟨?_,rfl,.inr (.inr rfl),fun _=>rfl,?_⟩
    ·exact iq (w:=w) neg (ju fun d=>uF d b f) (.inr (.inr ⟨f,rfl⟩))
    ·intro cs e;rcases f with f|⟨u,v,f⟩<;>· simp only [C.den] at e;rw [f] at e;cases e
   ·simp only [Q.ret.injEq] at h;obtain ⟨rfl,rfl⟩:=h;refine ⟨?_,by cases neg<;>rfl,.inr (.inr rfl),fun _=>rfl,by simp [C.den]⟩;have:=iq (w:=w) neg (ju fun d=>uF d b (x:=.nilIface) (.inl rfl)) (.inr (.inr ⟨.inl rfl,rfl⟩));cases neg<;>exact this
   ·cases h
  ·cases h
 ·cases h
theorem IY (hT:cG.ok P T){op:BinOp}{xt:TypeId}{x y:C}{ox oy:Operand}{sc:List Prop}{v:SV}
  (h:Av T op xt x y=.ret sc v)(hsc:∀p∈sc,p)(hy:y=.v .nilIface->∃c,oy=.const c) :
  (do eqGuard op xt ox oy (x.den β) (y.den β);binOp op xt (x.den β) (y.den β)).run P w=.ok (v.den β) w/\v.ids=[]:=by
 unfold Av at h;split at h
 ·rename_i i j;have j:=hT _ _ j;obtain ⟨info,d,z,D,l,E,r,-⟩:=aC j;split at h
  ·split at h
   ·rename_i k a m b
    have g:(eqGuard op xt ox oy (C.den β (.v (.int k a))) (C.den β (.v (.int m b)))).run P w=.ok () w:=
     nK (.inr (.inr (.inl ⟨_,_,rfl⟩))) (by simp [C.den]) (by simp [C.den])
    have key:(binOp op xt (.int k a) (.int m b)).run P w=.ok (v.den β) w/\v.ids=[]:=by
     split at h
     ·exact zt (.inl rfl) h hsc
     ·exact zt (.inr rfl) h hsc
     ·split at h
      ·rename_i e;obtain rfl:=zc e;exact D5 h hsc
      ·cases h
    simp only [Sem.run_bind,g,Result.andThen_ok];exact key
   ·cases h
  ·rename_i n;rw [r] at n;obtain rfl:=zZ n;split at h
   ·rename_i a b s t;have o:=yv (β:=β) s;have hy:=yv (β:=β) t
    have g:(eqGuard op xt ox oy (x.den β) (y.den β)).run P w=.ok () w:=by
     rw [o.1,hy.1];exact nK (.inr (.inr (.inr (.inl ⟨_,rfl⟩)))) (by simp) (by simp)
    simp only [Sem.run_bind,g,Result.andThen_ok];rw [o.1,hy.1];split at h
    ·simp only [Q.ret.injEq] at h;obtain ⟨rfl,rfl⟩:=h;exact ⟨Bq l (.inl rfl),rfl⟩
    ·simp only [Q.ret.injEq] at h;obtain ⟨rfl,rfl⟩:=h;exact ⟨Bq l (.inr rfl),rfl⟩
    ·cases h
   ·cases h
  ·have key:∀neg:Bool,Ax neg i.k x y=.ret sc v->(do eqGuard (if neg then .neq else .eql) xt ox oy (x.den β) (y.den β);binOp (if neg then .neq else .eql) xt (x.den β) (y.den β)).run P w=.ok (v.den β) w/\v.ids=[]:=by
    intro neg h;obtain ⟨u,A,f,q,B⟩:=I0 (w:=w) (β:=β) j neg h hsc
    have g:(eqGuard (if neg then BinOp.neq else BinOp.eql) xt ox oy (x.den β) (y.den β)).run P w=.ok () w:=by
     refine nK ?_ (fun e=>hy (q e)) B;rcases f with f|f|f
     ·exact .inl f
     ·exact .inr (.inl f)
     ·exact .inr (.inr (.inr (.inr (hy (q f)))))
    simp only [Sem.run_bind,g,Result.andThen_ok];exact ⟨u,A⟩
   split at h
   ·exact key false h
   ·exact key true h
   ·cases h
 ·cases h
end Go.Eng
namespace Go.Eng
variable {P:Program} {T:cG} {n:Nat} {V0:View} {bu:Dn} {β0:Nat->Nat} {st:St} {β:Nat->Nat} {a:Act} {w:World} {V:View}
theorem dW (b o k:Nat):(⟨b,o,none⟩:Addr).add k=⟨b,o+k,none⟩:=by
 unfold Addr.add;split
 ·rename_i h;subst h;rfl
 ·rfl
theorem cell_of_row {g o:Nat}{vs:List Value}{ty:TypeId}(h:w.heap[g]?=some (.cells vs.toArray ty (0,0))):w.cell? ⟨g,o,none⟩=vs[o]?:=by
 simp [World.cell?,h]
theorem B_ {g o m:Nat}{vs:List Value}{ty t:TypeId}{info:TypeInfo}{d:TypeDesc}(h:w.heap[g]?=some (.cells vs.toArray ty (0,0)))
  (h1:P.info? t=some info)(h2:P.underlying t=some d)(hm:info.size=m)(hk:pW (jH d)=true)(hl:o+m<=vs.length) :
  (loadVar t ⟨g,o,none⟩).run P w=.ok (.agg ((vs.drop o).take m).toArray) w:=by
 subst hm
 have key:=run_loadCells_list (P:=P) (w:=w) ⟨g,o,none⟩ ((vs.drop o).take info.size) (by
  intro j v a;rw [dW,cell_of_row h];rw [Qy3] at a;split at a
  ·rw [Qj5] at a;exact a
  ·cases a)
 rw [Qq5,Qz0,Qy8 (by omega)] at key;simp only [loadVar,Sem.run_bind,fS h2,Result.andThen_ok,hk,if_true,aI h1,key,Sem.run_pure]
theorem ze {g o:Nat}{vs:List Value}{ty t:TypeId}{d:TypeDesc}{v:Value}(h:w.heap[g]?=some (.cells vs.toArray ty (0,0)))
  (h2:P.underlying t=some d)(hk:pW (jH d)=false)(hv:vs[o]?=some v) :
  (loadVar t ⟨g,o,none⟩).run P w=.ok v w:=by
 simp only [loadVar,Sem.run_bind,fS h2,Result.andThen_ok,hk,Qz9,if_false,run_load,cell_of_row h,hv]
theorem Mod.row (hM:Mod n V0 bu β0 st β a w V){s:Nat}{b:aP}(hb:st.boxes s=some b)(lb:b.live):w.heap[β s]?=some (.cells (b.cs.den β).toArray b.ty (0,0)):=hM.boxes s b hb lb
theorem gu {cs:List C}{c:C}{s:Nat}(hc:c∈cs)(hs:s∈c.ids):s∈cs.flatMap C.ids:=Qw6.2 ⟨c,hc,hs⟩
theorem zi (hM:Mod n V0 bu β0 st β a w V){t:TypeId}{i:TI}(hi:kP P t=some i){x:SV}{sc:List Prop}{v:SV}(h:iO st.boxes i x=.ret sc v) :
  (Instr.loadAt t (x.den β)).run P w=.ok (v.den β) w/\Live st v:=by
 obtain ⟨info,d,z,D,y,F,A,E,-⟩:=aC hi;unfold iO at h;split at h
 ·rename_i b o;split at h
  ·rename_i cs ty B;have e:=hM.row B cq;have f:=hM.wP b _ B;simp only [Cells.den] at e
   have g:pW i.k=true->(if Nat.ble (o+i.size) cs.length then Q.ret [] (.agg ((cs.drop o).take i.size)) else .fail)=.ret sc v ->
     (Instr.loadAt t (SV.den β (.c (.ptr b o)))).run P w=.ok (v.den β) w/\Live st v:=by
    intro j h;split at h
    ·rename_i q;have q:=Qk5 q;simp only [Q.ret.injEq] at h;obtain ⟨-,rfl⟩:=h;refine ⟨?_,?_⟩
     ·have:=B_ (t:=t) (o:=o) (m:=i.size) e D y E.symm (A▸j) (by simpa using q);simp only [Instr.loadAt,Instr.sureAddr,SV.den,C.den,Sem.run_bind,Sem.run_pure,Result.andThen_ok,this];rw [Ww9,Wx0]
     ·intro s l;obtain ⟨c,p,l⟩:=Qw6.1 l;exact f s (gu (Qd5 (Qb7 p)) l)
    ·cases h
   split at h
   ·rename_i j;exact g (by rw [j];rfl) h
   ·rename_i j;exact g (by rw [j];rfl) h
   ·rename_i r u
    have j:pW i.k=false:=by
     cases hik:i.k<;>first|rfl|exact absurd hik (r _)|exact absurd hik (u _ _)
    split at h
    ·rename_i c p;simp only [Q.ret.injEq] at h;obtain ⟨-,rfl⟩:=h;refine ⟨?_,?_⟩
     ·have:=ze (t:=t) (o:=o) (v:=c.den β) e y (A▸j) (by simp [p]);simp only [Instr.loadAt,Instr.sureAddr,SV.den,C.den,Sem.run_bind,Sem.run_pure,Result.andThen_ok,this]
     ·intro s l;exact f s (gu (Qv9 p) l)
    ·cases h
  ·cases h
  ·split at h<;>cases h
  ·cases h
 ·split at h<;>cases h
 ·cases h
theorem wK.dG:∀(s:wK) {K:C->Prop},s.ex K->∃c,c.ids=[]/\K c
 | .int _,_,⟨_,h⟩=>⟨_,rfl,h⟩
 | .bool,_,⟨_,h⟩=>⟨_,rfl,h⟩
 | .slice,_,⟨_,_,_,h⟩=>⟨_,rfl,h⟩
 | .ptr,_,⟨_,h⟩=>⟨_,rfl,h⟩
 | .str,_,⟨_,h⟩=>⟨_,rfl,h⟩
 | .any,_,⟨_,h⟩=>⟨_,rfl,h⟩
theorem oR:∀(l:List wK) {K:List C->Prop},Mk l K->∃cs,cs.flatMap C.ids=[]/\cs.length=l.length/\K cs
 | [],_,h=>⟨[],rfl,rfl,h⟩
 | s::r,K,h=>by
  obtain ⟨c,hc,h'⟩:=wK.dG s h;obtain ⟨cs,a,b,d⟩:=oR r h';exact ⟨c::cs,by simp [hc,a],by simp [b],d⟩
theorem tN.dG:∀(s:tN) {K:SV->Prop},s.ex K->∃x,x.ids=[]/\((∃c,x=.c c/\∃s',s=.one s')\/∃cs l,x=.agg cs/\s=.agg l/\cs.length=l.length)/\K x
 | .one s,K,h=>by obtain ⟨c,hc,h'⟩:=wK.dG s h;exact ⟨.c c,hc,.inl ⟨c,rfl,s,rfl⟩,h'⟩
 | .agg l,K,h=>by obtain ⟨cs,a,b,h'⟩:=oR l h;exact ⟨.agg cs,a,.inr ⟨cs,l,rfl,rfl,b⟩,h'⟩
theorem uG:∀(l:List tN) {K:List (Bool×List C)->Prop},NF l K->∃xs,(xs.flatMap fun x=>x.2.flatMap C.ids)=[]/\K xs
 | [],_,h=>⟨[],rfl,h⟩
 | .one s::r,K,h=>by
  obtain ⟨c,hc,h'⟩:=wK.dG s h;obtain ⟨xs,a,b⟩:=uG r h';exact ⟨_,by simp [hc,a],b⟩
 | .agg l::r,K,h=>by
  obtain ⟨cs,hc,-,h'⟩:=oR l h;obtain ⟨xs,a,b⟩:=uG r h';exact ⟨(true,cs)::xs,by simp only [Qw5,hc,a,Qz5],b⟩
theorem Sh.dG:∀(s:Sh) {K:SV->Prop},s.ex K->∃x,x.ids=[]/\K x
 | .val s,K,h=>by obtain ⟨x,hx,-,h'⟩:=tN.dG s h;exact ⟨x,hx,h'⟩
 | .oC l,K,h=>by obtain ⟨xs,hx,h'⟩:=uG l h;exact ⟨.oC xs,hx,h'⟩
 | .none,K,h=>⟨.oC [],rfl,h⟩
theorem jm {x:SV}(h:x.ids=[])(β β':Nat->Nat):x.den β=x.den β':=SV.bC fun s a=>by rw [h] at a;cases a
theorem bL {x:SV}(h:x.ids=[]):Live st x:=fun s a=>by rw [h] at a;cases a
theorem Cv:∀(cs:List C) (p:Addr) (i:Nat) {k:Prop},V.KJ p i cs k->(∀j c,cs[j]?=some c->V.at (p.add (i+j)) (c.den fun _=>0))/\k
 | [],_,_,_,h=>⟨fun j c hj=>by simp at hj,h⟩
 | c::r,p,i,k,⟨h1,h2⟩=>by
  obtain ⟨h3,h4⟩:=Cv r p (i+1) h2;refine ⟨fun j d hj=>?_,h4⟩
  cases j with
  | zero=>simp at hj;subst hj;exact h1
  | succ j=>simp at hj;have:=h3 j d hj;rwa [show i+1+j=i+(j+1) from by omega] at this
theorem Mod.Q2 (hM:Mod n V0 bu β0 st β a w V){p:Addr}{v:Value}(h:V.at p v):w.cell? p=some v:=by
 obtain ⟨d,b⟩:=h;unfold World.cell? at b ⊢;split at b
 ·rename_i c e f g;rw [(hM.nt p.block _ ⟨d,g⟩).1];exact b
 ·cases b
theorem Fy {i:TI}{l:List wK}(h:kh i=.agg l):pW i.k=true/\l.length=i.zero.length:=by
 unfold kh at h;split at h
 ·rename_i a;simp only [tN.agg.injEq] at h;subst h;exact ⟨by rw [a];rfl,by simp⟩
 ·rename_i a;simp only [tN.agg.injEq] at h;subst h;exact ⟨by rw [a];rfl,by simp⟩
 ·split at h<;>cases h
theorem Fz {i:TI}{s:wK}(h:kh i=.one s):pW i.k=false:=by
 unfold kh at h;split at h
 ·cases h
 ·cases h
 ·rename_i a b;cases hik:i.k<;>first|rfl|exact absurd hik (a _)|exact absurd hik (b _ _)
theorem M8 (hM:Mod n V0 bu β0 st β a w V){t:TypeId}{i:TI}(hi:kP P t=some i)(hz:i.zero.length=i.size){p:OA}{x:SV}{k:Prop}
  (hx:x.ids=[])(hs:(∃c,x=.c c/\∃s',kh i=.one s')\/∃cs l,x=.agg cs/\kh i=.agg l/\cs.length=l.length)(h:V.JF p x k) :
  (Instr.loadAt t (.pointer p)).run P w=.ok (x.den β) w/\k:=by
 obtain ⟨info,d,z,r,o,F,q,u,-⟩:=aC hi;rcases hs with ⟨c,rfl,s,hs⟩|⟨cs,l,rfl,hs,y⟩
 ·obtain ⟨⟨f,rfl,g⟩,A⟩:=h;have b:=Fz hs;rw [q] at b;refine ⟨?_,A⟩;simp only [Instr.loadAt,Instr.sureAddr,Sem.run_bind,Sem.run_pure,Result.andThen_ok,loadVar,fS o,b,Qz9,if_false,run_load,hM.Q2 g];rw [jm hx β fun _=>0];rfl
 ·obtain ⟨f,rfl,B⟩:=h;obtain ⟨b,m⟩:=Fy hs;rw [q] at b;obtain ⟨D,E⟩:=Cv cs f 0 B;refine ⟨?_,E⟩
  have key:=run_loadCells_list (P:=P) (w:=w) f (cs.map (C.den fun _=>0)) (by
   intro j v e;rw [Qd7] at e
   cases hc:cs[j]? with
   | none=>rw [hc] at e;cases e
   | some c=>
    rw [hc] at e;simp only [Qh7,Qq4] at e;subst e;have:=hM.Q2 (D j c hc);simpa using this)
  rw [Qj1,y,m,hz,u] at key;simp only [Instr.loadAt,Instr.sureAddr,Sem.run_bind,Sem.run_pure,Result.andThen_ok,loadVar,fS o,b,if_true,aI r,key];rw [jm hx β fun _=>0];rfl
theorem zk (hM:Mod n V0 bu β0 st β a w V){t:TypeId}{i:TI}(hi:kP P t=some i){b o:Nat}{vs:List Value}{ty:TypeId}(hb:st.boxes b=some ⟨.row vs,ty⟩\/(st.boxes b=some ⟨.aH vs,ty⟩/\i.size≠0)){x:SV}
  (hx:x.ids=[])(hs:(∃c,x=.c c/\∃s',kh i=.one s')\/∃cs l,x=.agg cs/\kh i=.agg l/\cs.length=l.length)(h:KP vs o i.size x) :
  (Instr.loadAt t (SV.den β (.c (.ptr b o)))).run P w=.ok (x.den β) w:=by
 obtain ⟨info,d,z,p,j,A,k,q,-⟩:=aC hi
 have g:w.heap[β b]?=some (.cells vs.toArray ty (0,0)):=by
  rcases hb with hb|⟨hb,B⟩
  ·exact hM.row hb bY
  ·refine hM.row hb (dI fun e=>?_);subst e;rcases hs with ⟨c,rfl,s,hs⟩|⟨cs,l,rfl,hs,r⟩
   ·simp [KP] at h
   ·have:=h.1;simp at this;omega
 rcases hs with ⟨c,rfl,s,hs⟩|⟨cs,l,rfl,hs,r⟩
 ·have f:=Fz hs;rw [k] at f;have:=ze (t:=t) (o:=o) g j f h;rw [show SV.den β (.c c)=C.den (fun _=>0) c from jm (x:=.c c) hx β _];show (Instr.loadAt t (.pointer (some ⟨β b,o,none⟩))).run P w=_;simp only [Instr.loadAt,Instr.sureAddr,Sem.run_bind,Sem.run_pure,Result.andThen_ok,this]
 ·obtain ⟨f,u⟩:=Fy hs;rw [k] at f;obtain ⟨v,y⟩:=h;have:=B_ (t:=t) (o:=o) (m:=i.size) g p j q.symm f v;simp only [Instr.loadAt,Instr.sureAddr,C.den,SV.den,Sem.run_bind,Sem.run_pure,Result.andThen_ok,this,y];have:=jm (x:=.agg cs) hx β fun _=>0;simp only [SV.den,Value.agg.injEq] at this;rw [this]
theorem MZ {c:C}(h:∀p∈ef c,p):(c.den β).oneCell'=true:=by
 cases c with
 | v x=>cases x<;>first|rfl|exact (h False (by simp [ef])).elim
 | w x=>exact h (x.oneCell'=true) (by simp [ef])
 | _=>rfl
theorem Gb {v:Value}(h:v.oneCell'=true):v.cells=#[v]:=by cases v<;>first|rfl|simp [Value.oneCell'] at h
theorem SV.qo {x:SV}(ht:x.uS=false)(h:∀p∈x.ef,p):(x.den β).cells=(x.cells.map (C.den β)).toArray/\∀v∈x.cells.map (C.den β),v.oneCell'=true:=by
 have b:∀c∈x.cells,(c.den β).oneCell'=true:=fun c a=>MZ fun p d=>h p (Qw6.2 ⟨c,a,d⟩);refine ⟨?_,fun v e=>by obtain ⟨c,a,rfl⟩:=Qy5.1 e;exact b c a⟩
 cases x with
 | c c=>exact Gb (b c (by simp [SV.cells]))
 | agg cs=>rfl
 | oC xs=>cases ht
theorem iQ {g:Nat}{old cs:Array Value}{ty:TypeId}(h:w.heap[g]?=some (.cells old ty (0,0))):(w.setRow g cs).heap=w.heap.setIfInBounds g (.cells cs ty (0,0)):=by
 apply Array.ext_getElem?;intro i;by_cases e:i=g
 ·subst e;rw [setRow_heap w i old cs ty (0,0) h,Qn0,if_pos rfl,if_pos (aA h)]
 ·rw [setRow_other w g i cs e,Qn0,if_neg (Wx7 e)]
theorem dM {cs:List C}{vs:List Value}(h:jv cs=some vs):cs.map (C.den β)=vs/\cs.flatMap C.ids=[]:=by
 induction cs generalizing vs with
 | nil=>simp [jv] at h;subst h;exact ⟨rfl,rfl⟩
 | cons c r ih=>
  simp only [jv] at h;split at h
  ·rename_i v ws e a;simp only [Qq4] at h;subst h;obtain ⟨b,d⟩:=ih a;have:c.den β=v/\c.ids=[]:=by cases c<;>simp_all [C.val?,C.den,C.ids]
   exact ⟨by simp [b,this.1],by simp [d,this.2]⟩
  ·cases h
theorem pB {cs xs:List C}{o:Nat}:(setCells cs o xs).map (C.den β)=(cs.map (C.den β)).take o++xs.map (C.den β)++(cs.map (C.den β)).drop (o+xs.length):=by
 simp [setCells,Ww9,Wx0]
theorem pA {cs xs:List C}{o s:Nat}(h:s∈(setCells cs o xs).flatMap C.ids):s∈cs.flatMap C.ids\/s∈xs.flatMap C.ids:=by
 obtain ⟨c,a,b⟩:=Qw6.1 h;simp only [setCells,Qw2] at a;rcases a with (a|a)|a
 ·exact .inl (gu (Qb7 a) b)
 ·exact .inr (gu a b)
 ·exact .inl (gu (Qd5 a) b)
theorem iR {vs xs:List Value}{o:Nat}(h:o+xs.length<=vs.length:=by omega):ae vs o xs=vs.take o++xs++vs.drop (o+xs.length):=by
 unfold ae;split
 ·rename_i x;have:o<vs.length:=by simp at h;omega
  rw [Qr2,if_pos this];simp
 ·rfl
theorem SV.qp {x:SV}{s:Nat}(ht:x.uS=false):s∈x.cells.flatMap C.ids->s∈x.ids:=by
 cases x with
 | c c=>simp [SV.cells,SV.ids]
 | agg cs=>exact id
 | oC xs=>cases ht
theorem Eg (hM:Mod n V0 bu β0 st β a w V){t:TypeId}{i:TI}(hi:kP P t=some i){av xv:SV}(hx:Live st xv){sc:List Prop}{s:Nat}{b:aP}
  (h:fR st.boxes i av xv=.sN sc s b)(hsc:∀p∈sc,p) :
  ∃w',(Instr.storeAt t (av.den β) (xv.den β)).run P w=.ok () w'/\Mod n V0 bu β0 (st.box s b) β a w' V:=by
 obtain ⟨info,d,z,W,Y,Z,h4,U,-⟩:=aC hi;unfold fR at h;split at h
 ·rename_i g o;split at h
  ·rename_i k;simp only [Qx5,beq_eq,Qc9] at k;obtain ⟨hlen,y⟩:=k
   have core:∀(j:List Value)(ty:TypeId)(K:aP),w.heap[β g]?=some (.cells j.toArray ty (0,0))->(∀p∈xv.ef,p)->o+xv.cells.length<=j.length->K.ty=ty ->
     K.cs.den β=j.take o++xv.cells.map (C.den β)++j.drop (o+xv.cells.length) ->
     ∃w',(Instr.storeAt t (SV.den β (.c (.ptr g o))) (xv.den β)).run P w=.ok () w'/\w'.heap=w.heap.setIfInBounds (β g) (K.obj β)/\w'.os=w.os/\w'.tape=w.tape/\w'.output=w.output:=by
    intro j ty K f A hle M B;obtain ⟨D,N⟩:=SV.qo (β:=β) y A;have key:=run_storeCells_at (P:=P) (β g) o ty (xv.cells.map (C.den β)) 0 j.toArray w f (by simpa using hle) N;refine ⟨w.setRow (β g) (j.take o++xv.cells.map (C.den β)++j.drop (o+xv.cells.length)).toArray,?_,?_⟩
    ·generalize xv.den β=v at D;show (Instr.storeAt t (.pointer (some ⟨β g,o,none⟩)) v).run P w=_;simp only [Instr.storeAt,Instr.sureAddr,Sem.run_bind,Sem.run_pure,Result.andThen_ok,storeVar,aI W,D];simp [hlen,U];simpa [hlen,U] using key
    ·exact ⟨by rw [iQ f,aP.obj,B,M],rfl,rfl,rfl⟩
   split at h
   ·rename_i cs ty q;split at h
    ·rename_i O;have O:=Qk5 O;simp only [Q.sN.injEq] at h;obtain ⟨rfl,rfl,rfl⟩:=h;have f:=hM.row q cq;obtain ⟨w',E,F,G,H,I⟩:=core _ _ ⟨.lit (setCells cs o xv.cells),ty⟩ f hsc (by simpa [Cells.den,hlen] using O) rfl (by simp only [Cells.den];exact pB);refine ⟨w',E,hM.sN q cq ?_ F G H I⟩;intro L l;rcases pA l with R|R
     ·exact hM.wP _ _ q L R
     ·exact hx L (SV.qp y R)
    ·cases h
   ·rename_i x ty q;split at h
    ·rename_i xs r;simp only [Q.sN.injEq] at h;obtain ⟨rfl,rfl,rfl⟩:=h;have f:=hM.row q bY;obtain ⟨m,S⟩:=dM (β:=β) r;have hle:o+i.size<=x.length:=hsc _ (by simp);have u:xs.length=i.size:=by rw [←m,Qj1,hlen]
     obtain ⟨w',E,F,G,H,I⟩:=core _ _ ⟨.row (ae x o xs),ty⟩ f (fun p T=>hsc p (Qj2 _ T)) (by simpa [Cells.den,hlen] using hle) rfl (by
      simp only [Cells.den];rw [iR,m,hlen,u])
     exact ⟨w',E,hM.sN q bY (by intro L l;simp [Cells.ids] at l) F G H I⟩
    ·cases h
   ·rename_i x ty q;split at h
    ·cases h
    rename_i X;split at h
    ·rename_i xs r;simp only [Q.sN.injEq] at h;obtain ⟨rfl,rfl,rfl⟩:=h;obtain ⟨m,S⟩:=dM (β:=β) r;have hle:o+i.size<=x.length:=hsc _ (by simp)
     have J:aP.live ⟨.aH x,ty⟩:=dI fun e=>by
      subst e;simp at hle;exact X (by rw [hle.2];rfl)
     have f:=hM.row q J;have u:xs.length=i.size:=by rw [←m,Qj1,hlen]
     obtain ⟨w',E,F,G,H,I⟩:=core _ _ ⟨.aH (ae x o xs),ty⟩ f (fun p T=>hsc p (Qj2 _ T)) (by simpa [Cells.den,hlen] using hle) rfl (by
      simp only [Cells.den];rw [iR,m,hlen,u])
     exact ⟨w',E,hM.sN q J (by intro L l;simp [Cells.ids] at l) F G H I⟩
    ·cases h
   ·cases h
  ·cases h
 ·cases h
end Go.Eng
namespace Go.Eng
variable {P:Program} {T:cG} {n:Nat} {V0:View} {bu:Dn} {β0:Nat->Nat} {st:St} {β:Nat->Nat} {a:Act} {w:World} {V:View}
theorem Gj (xs:List Value):∀(cs:Array Value)(off:Nat),off+xs.length<=cs.size ->
  (xs.toArray.zipIdx.foldl (fun cs (p:Value×Nat)=>cs.setIfInBounds (off+p.2) p.1) cs)=(cs.toList.take off++xs++cs.toList.drop (off+xs.length)).toArray:=by
 have gen:∀(xs:List Value)(k:Nat)(cs:List Value)(off:Nat),off+k+xs.length<=cs.length ->
   (xs.zipIdx k).foldl (fun (cs:Array Value) (p:Value×Nat)=>cs.setIfInBounds (off+p.2) p.1) cs.toArray=(cs.take (off+k)++xs++cs.drop (off+k+xs.length)).toArray:=by
  intro xs
  induction xs with
  | nil=>intro k cs off _;simp
  | cons x r ih=>
   intro k cs off h;simp only [Qx2] at h;simp only [List.zipIdx_cons,Qm8,List.setIfInBounds_toArray];rw [ih (k+1) (cs.set (off+k) x) off (by simp;omega)];congr 1;have a:off+k<cs.length:=by omega
   rw [Qr2,if_pos a]
   have b:(cs.take (off+k)++x::cs.drop (off+k+1)).take (off+(k+1))=cs.take (off+k)++[x]:=by
    rw [List.take_append,Qb8 (by simp;omega),Qq5,Qy8 (by omega),show off+(k+1)-(off+k)=1 from by omega];simp
   have c:(cs.take (off+k)++x::cs.drop (off+k+1)).drop (off+(k+1)+r.length)=cs.drop (off+k+(r.length+1)):=by
    rw [List.drop_append,Qx1 (by simp;omega),Qq5,Qy8 (by omega),show off+(k+1)+r.length-(off+k)=r.length+1 from by omega];simp only [Qn3,List.drop_succ_cons,Qm6];congr 1;omega
   rw [b,c];simp
 intro cs off h;have:=gen xs 0 cs.toList off (by simpa using h);simpa [←Array.foldl_toList] using this
theorem mD {place:Nat->Option (Nat×Nat)}:∀(ps:List (Nat×SV))(cells out:List C),nf place cells ps=some out ->
  (∀x∈ps,∀v:C,v∈x.2.cells->∀p∈ef v,p) ->
  Instr.fill place (cells.map (C.den β)).toArray (ps.map fun x=>(x.1,x.2.den β))=some (out.map (C.den β)).toArray /\
  (∀s∈out.flatMap C.ids,s∈cells.flatMap C.ids\/∃x∈ps,s∈x.2.ids)
 | [],cells,out,h,_=>by
  simp only [nf,Qq4] at h;subst h;exact ⟨rfl,fun s hs=>.inl hs⟩
 | (i,x)::r,cells,out,h,hone=>by
  simp only [nf] at h;split at h
  ·cases h
  ·rename_i off size hp;split at h
   ·rename_i hc;simp only [Qx5,beq_eq,Qc9] at hc;obtain ⟨⟨hl,hle⟩,hnt⟩:=hc;have hle:=Qk5 hle;have hnt:x.uS=false:=by simpa using hnt
    have e:∀p∈x.ef,p:=fun p hp=>by
     obtain ⟨v,f,hp⟩:=Qw6.1 hp;exact hone (i,x) (by simp) v f p hp
    obtain ⟨b,-⟩:=SV.qo (β:=β) hnt e;obtain ⟨g,j⟩:=mD r _ _ h (fun y c=>hone y (Qq8 _ c));refine ⟨?_,?_⟩
    ·simp only [Qb9,Instr.fill,hp];rw [if_neg (by rw [b];simp [hl];omega)];rw [b];have:=Gj (x.cells.map (C.den β)) (cells.map (C.den β)).toArray off (by simpa [hl] using hle);rw [this];rw [←g,pB];simp
    ·intro s hs;rcases j s hs with d|⟨y,c,d⟩
     ·rcases pA d with a|a
      ·exact .inl a
      ·exact .inr ⟨(i,x),by simp,SV.qp hnt a⟩
     ·exact .inr ⟨y,Qq8 _ c,d⟩
   ·cases h
theorem jt (hM:Mod n V0 bu β0 st β a w V):∀(l:List (Nat×Operand))(ps:List (Nat×SV)),partsOf st.aY l=some ps ->
  (l.map fun x=>(x.1,a.eval x.2))=(ps.map fun x=>(x.1,x.2.den β))/\∀x∈ps,Live st x.2
 | [],ps,h=>by simp only [partsOf,Qq4] at h;subst h;exact ⟨rfl,fun x hx=>by cases hx⟩
 | (i,o)::r,ps,h=>by
  simp only [partsOf] at h;split at h
  ·rename_i x l hx hl;simp only [Qq4] at h;subst h;obtain ⟨h1,h2⟩:=jt hM r l hl;refine ⟨by simp [h1,hM.eval hx],fun y b=>?_⟩;rcases Qq6.1 b with rfl|b
   ·exact hM.live hx
   ·exact h2 y b
  ·cases h
theorem eV (hM:Mod n V0 bu β0 st β a w V):∀(l:List Operand)(xs:List SV),bO st.aY l=some xs ->
  l.map a.eval=xs.map (SV.den β)/\∀x∈xs,Live st x
 | [],xs,h=>by simp only [bO,Qq4] at h;subst h;exact ⟨rfl,fun x hx=>by cases hx⟩
 | o::r,xs,h=>by
  simp only [bO] at h;split at h
  ·rename_i x l hx hl;simp only [Qq4] at h;subst h;obtain ⟨h1,h2⟩:=eV hM r l hl;refine ⟨by simp [h1,hM.eval hx],fun y b=>?_⟩;rcases Qq6.1 b with rfl|b
   ·exact hM.live hx
   ·exact h2 y b
  ·cases h
theorem lk (hT:cG.ok P T):∀(gs:List Field)(pl:List (Nat×Nat)),eR T (gs.map fun f=>(f.type,f.offset))=some pl ->
  ∀w:World,(gs.mapM fun f:Field=>do pure (f.offset,←sizeOf f.type)).run P w=.ok pl w
 | [],pl,h,w=>by simp only [Wx8,eR,Qq4] at h;subst h;simp
 | f::r,pl,h,w=>by
  simp only [Qb9,eR] at h;split at h
  ·rename_i i l hi hl;simp only [Qq4] at h;subst h;obtain ⟨info,d,z,h1,h2,h3,h4,h5,-⟩:=aC (hT _ _ hi);have:=lk hT r l hl w;simp only [bind_pure_comp] at this;simp [Wy9,aI h1,this,h5]
  ·cases h
theorem du {i:TI}{z:Value}(h:i.zero=z.cells.toList.map C.ofConst):(i.zero.map (C.den β)).toArray=z.cells/\i.zero.flatMap C.ids=[]:=by
 rw [h];exact ⟨by rw [Cc],Ag _⟩
theorem Ao {ps:List (Nat×SV)}(h:∀p∈ps.flatMap (fun x=>x.2.ef),p):∀x∈ps,∀v:C,v∈x.2.cells->∀p∈ef v,p:=
 fun x a v b p c=>h p (Qw6.2 ⟨x,a,Qw6.2 ⟨v,b,c⟩⟩)
theorem parts_eq {parts:Array (Nat×Operand)}{ps:List (Nat×SV)}(h:(parts.toList.map fun x=>(x.1,a.eval x.2))=(ps.map fun x=>(x.1,x.2.den β))) :
  (parts.map fun x=>(x.1,a.eval x.2)).toList=ps.map fun x=>(x.1,x.2.den β):=by rw [Qc4];exact h
theorem zJ (hT:cG.ok P T)(hM:Mod n V0 bu β0 st β a w V){t:TypeId}{i:TI}(hi:kP P t=some i){fs:List (TypeId×Nat)}(hk:i.k=.struct fs)
  {parts:Array (Nat×Operand)}{ps:List (Nat×SV)}(hp:partsOf st.aY parts.toList=some ps){pl:List (Nat×Nat)}(hpl:eR T fs=some pl)
  {cs:List C}(hf:nf (fun j=>pl[j]?) i.zero ps=some cs)(hsc:∀p∈ps.flatMap (fun x=>x.2.ef),p) :
  (Instr.build t (parts.map fun x=>(x.1,a.eval x.2))).run P w=.ok (SV.den β (.agg cs)) w/\Live st (.agg cs):=by
 obtain ⟨info,d,z,b,c,e,g,A,B,l⟩:=aC hi;obtain ⟨m,o⟩:=jt hM _ _ hp;rw [g] at hk;obtain ⟨gs,rfl,rfl⟩:=iE hk;obtain ⟨q,r⟩:=du (β:=β) l;obtain ⟨f1,f2⟩:=mD (β:=β) _ _ _ hf (Ao hsc);have hm:=lk hT gs.toList pl hpl w;refine ⟨?_,?_⟩
 ·have u:(gs.mapM fun f:Field=>do pure (f.offset,←sizeOf f.type)).run P w=.ok pl.toArray w:=by
   rw [Ww1];simp only [Sem.run_map,hm,Result.andThen_ok]
  simp only [Instr.build,Sem.run_bind,il b e,Result.andThen_ok,aj c,u];rw [parts_eq m,←q];have:(fun j:Nat=>pl.toArray[j]?)=fun j:Nat=>pl[j]?:=by funext j;simp
  rw [this,f1];rfl
 ·intro s v;rcases f2 s v with h|⟨x,y,h⟩
  ·rw [r] at h;cases h
  ·exact o x y s h
theorem Bs (hT:cG.ok P T)(hM:Mod n V0 bu β0 st β a w V){t:TypeId}{i:TI}(hi:kP P t=some i){m:Nat}{e:TypeId}(hk:i.k=.arr m e)
  {parts:Array (Nat×Operand)}{ps:List (Nat×SV)}(hp:partsOf st.aY parts.toList=some ps){ei:TI}(he:aB T e=some ei)
  {cs:List C}(hf:nf (fun j=>some (j*ei.size,ei.size)) i.zero ps=some cs)(hsc:∀p∈ps.flatMap (fun x=>x.2.ef),p) :
  (Instr.build t (parts.map fun x=>(x.1,a.eval x.2))).run P w=.ok (SV.den β (.agg cs)) w/\Live st (.agg cs):=by
 obtain ⟨info,d,z,b,c,f,g,D,E,l⟩:=aC hi;obtain ⟨F,G,H,o,I,J,K,q,L,M⟩:=aC (hT _ _ he);obtain ⟨r,u⟩:=jt hM _ _ hp;rw [g] at hk;obtain rfl:=lI hk;obtain ⟨v,y⟩:=du (β:=β) l;obtain ⟨f1,f2⟩:=mD (β:=β) _ _ _ hf (Ao hsc);refine ⟨?_,?_⟩
 ·simp only [Instr.build,Sem.run_bind,il b f,Result.andThen_ok,aj c,aI o];rw [parts_eq r,←v,←q,f1];rfl
 ·intro s A;rcases f2 s A with h|⟨x,B,h⟩
  ·rw [y] at h;cases h
  ·exact u x B s h
theorem GN {α:Type}[Inhabited α](zs:List α)(m:Nat):((List.range (m*zs.length)).map fun j=>zs.toArray[j%zs.length]!)=(List.replicate m zs).flatten:=by
 induction m with
 | zero=>simp
 | succ m ih=>
  rw [List.replicate_succ',List.flatten_append,←ih,Qm4,List.range_add,Qm9];congr 1;simp only [Ww4,List.flatten_nil,Qz5,Qs8];apply Qs5;intro j;rw [Qd7];by_cases a:j<zs.length
  ·rw [List.getElem?_range a];simp only [Qh7,Function.comp];rw [Qf2,Nat.add_mul_mod_self_right,Qx9 a];simp [a]
  ·rw [Qk6 (by simp;omega),Qk6 (by omega)];rfl
theorem KL (m:Nat)(zs:List C):(rep m zs).map (C.den β)=(List.replicate m (zs.map (C.den β))).flatten:=by
 unfold rep;rw [List.map_flatten,List.map_replicate]
theorem KK {m:Nat}{zs:List C}(h:zs.flatMap C.ids=[]):(rep m zs).flatMap C.ids=[]:=by
 unfold rep
 induction m with
 | zero=>rfl
 | succ m ih=>rw [Qp9,Ww4,Qc6,h,ih];rfl
theorem pQ (m:Nat)(zs:List Value):rv m zs=(List.replicate m zs).flatten:=by
 unfold rv;split
 ·rename_i z
  induction m with
  | zero=>rfl
  | succ m ih=>rw [Qp9,Qp9,Ww4,ih];rfl
 ·rfl
theorem pY {z:Value}{m:Nat}(k:Nat)(hk:k=m*z.cells.size) :
  ((Array.range k).map fun j=>z.cells[j%z.cells.size]!)=((List.replicate m z.cells.toList).flatten).toArray:=by
 apply Qn6;rw [Qc4,Array.toList_range];subst hk;have:=GN z.cells.toList m;simpa using this
theorem tV {z:Value}{m:Nat}(h0:m*z.cells.size=0):(List.replicate m z.cells.toList).flatten=[]:=by
 rcases Qt7.1 h0 with h|h
 ·subst h;rfl
 ·have:z.cells.toList=[]:=by
   have:z.cells.toList.length=0:=by simpa using h
   exact Qw4.1 this
  rw [this];simp
theorem I5:Array.range 0=#[]:=rfl
theorem tX (hT:cG.ok P T)(hM:Mod n V0 bu β0 st β a w V){t:TypeId}{i:TI}(hi:kP P t=some i){e:TypeId}(hk:i.k=.slice e){len:Nat}
  {parts:Array (Nat×Operand)}{ps:List (Nat×SV)}(hp:partsOf st.aY parts.toList=some ps){ei:TI}(he:aB T e=some ei)
  (hlen:len*ei.size<=16777216)(hzl:ei.zero.length=ei.size)(hz0:ei.size≠0)
  {cs:List C}(hf:nf (fun j=>some (j*ei.size,ei.size)) (rep len ei.zero) ps=some cs)(hsc:∀p∈ps.flatMap (fun x=>x.2.ef),p) :
  (Instr.buildSlice t len (parts.map fun x=>(x.1,a.eval x.2))).run P w=.ok (.slice (some ⟨w.heap.size,0,none⟩) len len) (w.alloc (aP.obj β ⟨.lit cs,e⟩)) /\
  ∀s∈cs.flatMap C.ids,∃b,st.boxes s=some b:=by
 obtain ⟨info,d,z,L,y,M,A,N,O,Q⟩:=aC hi;obtain ⟨g,R,l,r,S,B,U,o,W,D⟩:=aC (hT _ _ he);obtain ⟨u,E⟩:=jt hM _ _ hp;rw [A] at hk;obtain rfl:=aW hk;obtain ⟨v,F⟩:=du (β:=β) D;obtain ⟨f1,f2⟩:=mD (β:=β) _ _ _ hf (Ao hsc);have f:l.cells.size=g.size:=by rw [←v];simp [hzl,o]
 refine ⟨?_,?_⟩
 ·have c:((List.replicate len l.cells.toList).flatten).toArray=((rep len ei.zero).map (C.den β)).toArray:=by
   rw [KL,←v]
  have G:¬len*g.size>2^24:=by rw [←o];simpa using hlen
  simp only [Instr.buildSlice,Sem.run_bind,aj y,Result.andThen_ok,aI r,Sem.run_ite,if_neg G];by_cases q:len*g.size=0
  ·have H:=tV (z:=l) (m:=len) (by rw [f];exact q);rw [H] at c;simp only [q,if_true,Sem.run_pure,Result.andThen_ok,I5,Array.map_empty,←c] at f1 ⊢;rw [parts_eq u,←o];have I:Instr.fill (fun j=>some (j*ei.size,ei.size)) #[] (ps.map fun x=>(x.1,x.2.den β))=some (cs.map (C.den β)).toArray:=f1;rw [I];simp only [Sem.run_bind,newRow,run_newObj,Result.andThen_ok,Sem.run_pure];rfl
  ·simp only [q,if_false,il r B,Sem.run_pure,Result.andThen_ok];rw [pY (z:=l) (m:=len) (len*g.size) (by rw [f]),c,parts_eq u,←o,f1];simp only [Sem.run_bind,newRow,run_newObj,Result.andThen_ok,Sem.run_pure];rfl
 ·intro s J;rcases f2 s J with h|⟨x,K,h⟩
  ·rw [KK F] at h;cases h
  ·exact E x K s h
theorem zA {x:Int}(h0:0<=x)(h1:x<9223372036854775808:=by omega):i64.wrap x=x:=by
 unfold IntKind.wrap IntKind.bits IntKind.signed;simp;omega
theorem xp (hT:cG.ok P T){t:TypeId}{i:TI}(hi:kP P t=some i){e:TypeId}(hk:i.k=.slice e){ei:TI}(he:aB T e=some ei)
  {k1 k2:IntKind}{l c:Int}(hb:ei.bytes≠0)(hs:ei.size≠0){zs:List Value}(hz:jv ei.zero=some zs)(hzl:ei.size=zs.length)
  (c1:0<=l)(c2:l<=c)(c3:(ei.bytes:Int)*c<=140737488355328) :
  (Instr.makeSlice t (.int k1 l) (.int k2 c)).run P w=.ok (.slice (some ⟨w.heap.size,0,none⟩) l.toNat c.toNat) (w.alloc (aP.obj β ⟨.row (rv c.toNat zs),e⟩)):=by
 obtain ⟨info,d,z,B,p,C,q,D,E,F⟩:=aC hi;obtain ⟨f,G,g,h,H,r,I,s,u,v⟩:=aC (hT _ _ he);rw [q] at hk;obtain rfl:=aW hk;obtain ⟨n,J⟩:=du (β:=β) v;obtain ⟨d1,-⟩:=dM (β:=β) hz;have b:g.cells.size=f.size:=by rw [←n,d1];simp [←hzl,s]
 have o:c<=140737488355328:=by
  have:1<=(ei.bytes:Int):=by omega
  have:=Int.mul_le_mul_of_nonneg_right this (by omega:0<=c);omega
 have x:i64.wrap l=l:=zA c1;have y:i64.wrap c=c:=zA (by omega);rw [u] at c3
 have t1:(decide (c<0)||decide ((f.bytes:Int)*c>2^48))=false:=by
  rw [show ((2:Int)^48)=281474976710656 from by decide];simp;omega
 have t2:decide (l<0)=false:=by simp;omega
 have t3:decide (l>c)=false:=by simp;omega
 have a:(List.replicate c.toNat g.cells.toList).flatten=rv c.toNat zs:=by rw [pQ,←d1,←n]
 simp only [Instr.makeSlice,Sem.run_bind,aj p,Result.andThen_ok,jF h,asInt,asIntOf,Sem.run_pure,x,y,t1,t2,t3,Bool.or_self,Qz9,if_false,run_askRoom,aI h,Sem.run_ite];by_cases j:c.toNat*f.size=0
 ·have A:=tV (z:=g) (m:=c.toNat) (by rw [b];exact j);rw [A] at a;simp only [j,if_true,Sem.run_bind,Sem.run_pure,Result.andThen_ok,I5,Array.map_empty,newRow,run_newObj,←a];rfl
 ·simp only [j,if_false,il h r,Result.andThen_ok];rw [pY (z:=g) (m:=c.toNat) (c.toNat*f.size) (by rw [b]),a];simp only [Sem.run_bind,newRow,run_newObj,Result.andThen_ok,Sem.run_pure];rfl
end Go.Eng
namespace Go.Eng
variable {P:Program} {T:cG} {n:Nat} {V0:View} {bu:Dn} {β0:Nat->Nat} {st:St} {β:Nat->Nat} {a:Act} {w:World} {V:View}
theorem BP {gs:Array Field}{f ft off:Nat}(h:(gs.toList.map fun f=>(f.type,f.offset))[f]?=some (ft,off)):∃JC,gs[f]?=some JC/\JC.type=ft/\JC.offset=off:=by
 rw [Qd7] at h
 cases hg:gs.toList[f]? with
 | none=>rw [hg] at h;cases h
 | some JC=>
  rw [hg] at h;simp only [Qh7,Qq4,Qn1] at h;exact ⟨JC,by simpa using hg,h.1,h.2⟩
theorem rI (hT:cG.ok P T){t:TypeId}{i:TI}(hi:kP P t=some i){fs:List (TypeId×Nat)}(hk:i.k=.struct fs){f ft off:Nat}(hf:fs[f]?=some (ft,off))
  {fi:TI}(hfi:aB T ft=some fi)(hs:fi.size≠0)(ad:Addr):(Instr.fieldAt t (.pointer (some ad)) f).run P w=.ok (.pointer (some (ad.add off))) w:=by
 obtain ⟨info,d,z,g,a,h,b,j,l,m⟩:=aC hi;obtain ⟨n,fd,o,c,p,q,r,s,u,v⟩:=aC (hT _ _ hfi);rw [b] at hk;obtain ⟨gs,rfl,rfl⟩:=iE hk;obtain ⟨x,e,rfl,rfl⟩:=BP hf;simp only [Instr.fieldAt,Sem.run_bind,aj a,Result.andThen_ok,e,Instr.sureAddr,Sem.run_pure,fieldPlace,aI c];rw [Sem.run_ite,if_neg (by omega)];rfl
theorem Cn {t:TypeId}{i:TI}(hi:kP P t=some i)(cs:List C)(off:Nat) :
  (pW i.k=true->(part t (cs.map (C.den β)).toArray off).run P w=.ok (SV.den β (.agg ((cs.drop off).take i.size))) w) /\
  (∀c,pW i.k=false->cs[off]?=some c->(part t (cs.map (C.den β)).toArray off).run P w=.ok (c.den β) w):=by
 obtain ⟨info,d,z,f,b,j,e,g,l,m⟩:=aC hi;refine ⟨fun a=>?_,fun c a h=>?_⟩
 ·rw [e] at a;simp only [part,Sem.run_bind,fS b,Result.andThen_ok,a,if_true,aI f,Sem.run_pure,SV.den];congr 2;apply Qn6;rw [←g];simp [Ww9,Wx0,List.extract,List.take_drop]
 ·rw [e] at a;simp [part,fS b,a,h]
theorem Gg (hT:cG.ok P T){t:TypeId}{i:TI}(hi:kP P t=some i){fs:List (TypeId×Nat)}(hk:i.k=.struct fs){f ft off:Nat}(hf:fs[f]?=some (ft,off))
  {fi:TI}(hfi:aB T ft=some fi){cs:List C} :
  (pW fi.k=true->(Instr.field t (SV.den β (.agg cs)) f).run P w=.ok (SV.den β (.agg ((cs.drop off).take fi.size))) w) /\
  (∀c,pW fi.k=false->cs[off]?=some c->(Instr.field t (SV.den β (.agg cs)) f).run P w=.ok (c.den β) w):=by
 obtain ⟨info,d,z,n,g,o,j,p,q,s⟩:=aC hi;rw [j] at hk;obtain ⟨gs,rfl,rfl⟩:=iE hk;obtain ⟨b,l,rfl,rfl⟩:=BP hf;have e:=Cn (w:=w) (β:=β) (hT _ _ hfi) cs b.offset
 have a:∀r,(part b.type (cs.map (C.den β)).toArray b.offset).run P w=r->(Instr.field t (SV.den β (.agg cs)) f).run P w=r:=by
  intro r a;simp only [Instr.field,Sem.run_bind,aj g,Result.andThen_ok,l,asAgg,SV.den,Sem.run_pure,a]
 exact ⟨fun h=>a _ (e.1 h),fun c h m=>a _ (e.2 c h m)⟩
theorem di (k:IntKind)(x:Int):(asIntOf (.int k x)).run P w=.ok (k,x) w:=rfl
theorem vw (hT:cG.ok P T){t:TypeId}{i:TI}(hi:kP P t=some i){x ix:SV}{sc:List Prop}{v:SV}(h:fQ T i x ix=.ret sc v)(hsc:∀p∈sc,p) :
  (Instr.indexAt t (x.den β) (ix.den β)).run P w=.ok (v.den β) w/\∀s∈v.ids,s∈x.ids:=by
 obtain ⟨info,d,z,J,j,K,r,L,M,N⟩:=aC hi;unfold fQ at h;split at h
 ·rename_i k m;split at h
  ·rename_i e l;rw [r] at l;obtain rfl:=aW l;split at h
   ·rename_i u he;obtain ⟨y,A,B,f,D,E,F,g,G,H⟩:=aC (hT _ _ he);split at h
    ·rename_i n len c;simp only [Q.ret.injEq] at h;obtain ⟨rfl,rfl⟩:=h;have q:=hsc (n.isSome=true) (by simp);have a:=hsc (0<=m/\m<(len:Int)) (by simp);obtain ⟨p,rfl⟩:=Qg3.1 q;refine ⟨?_,fun s b=>b⟩;simp [Instr.indexAt,SV.den,C.den,di,aj j,a,aI f,ah,g]
    ·rename_i s o len c;simp only [Q.ret.injEq] at h;obtain ⟨rfl,rfl⟩:=h;have a:=hsc (0<=m/\m<(len:Int)) (by simp);refine ⟨?_,fun s b=>by simpa [SV.ids,C.ids] using b⟩;simp [Instr.indexAt,SV.den,C.den,di,aj j,a,aI f,dW,g]
    ·rename_i s len c;simp only [Q.ret.injEq] at h;obtain ⟨rfl,rfl⟩:=h;have a:=hsc (0<=m/\m<(len:Int)) (by simp);have O:=hsc (len<=c) (by simp);refine ⟨?_,fun s b=>by simpa [SV.ids,C.ids] using b⟩;have I:mA (β s) c=some ⟨β s,0,none⟩:=by unfold mA;rw [if_neg (by omega)]
     simp [Instr.indexAt,SV.den,C.den,di,aj j,a,aI f,dW,g,I]
    ·cases h
   ·cases h
  ·rename_i len e l;rw [r] at l;obtain rfl:=lI l;split at h
   ·rename_i u he;obtain ⟨y,A,B,f,D,E,F,g,G,H⟩:=aC (hT _ _ he);split at h
    ·rename_i s o;simp only [Q.ret.injEq] at h;obtain ⟨rfl,rfl⟩:=h;have a:=hsc (0<=m/\m<(len:Int)) (by simp);refine ⟨?_,fun s b=>by simpa [SV.ids,C.ids] using b⟩;simp [Instr.indexAt,Instr.sureAddr,SV.den,C.den,di,aj j,a,aI f,dW,g]
    ·rename_i n;simp only [Q.ret.injEq] at h;obtain ⟨rfl,rfl⟩:=h;have q:=hsc (n.isSome=true) (by simp);have a:=hsc (0<=m/\m<(len:Int)) (by simp);obtain ⟨p,rfl⟩:=Qg3.1 q;refine ⟨?_,fun s b=>b⟩;simp [Instr.indexAt,Instr.sureAddr,SV.den,C.den,di,aj j,a,aI f,ah,g]
    ·cases h
   ·cases h
  ·cases h
 ·cases h
theorem FX {k:IntKind}{x:Int}{y:Nat}(code:BoundsCode)(h:0<=x/\x<=(y:Int)):(Instr.sliceBound (.int k x) y code).run P w=.ok x.toNat w:=by
 simp [Instr.sliceBound,di,h]
theorem gw {len c:Nat}{lo hi mx:Option SV}{sc:List Prop}{l:Option Nat}{h m:Nat}(hq:mH len c lo hi mx=some (sc,l,h,m))(hsc:∀p∈sc,p) :
  (Instr.sliceBounds true len c (lo.map (SV.den β)) (hi.map (SV.den β)) (mx.map (SV.den β))).run P w=.ok (l.getD 0,h,m) w:=by
 unfold mH at hq
 cases ht:KG c mx with
 | none=>rw [ht] at hq;cases hq
 | some t=>
  obtain ⟨g,a⟩:=t;rw [ht] at hq;dsimp only at hq
  cases hh:IZ len a hi mx with
  | none=>rw [hh] at hq;cases hq
  | some t=>
   obtain ⟨i,b⟩:=t;rw [hh] at hq;dsimp only at hq
   cases hl:M4 b lo with
   | none=>rw [hl] at hq;cases hq
   | some t=>
    obtain ⟨j,f⟩:=t;rw [hl] at hq;simp only [Qq4,Qn1] at hq;obtain ⟨rfl,rfl,rfl,rfl⟩:=hq
    have hm:((mx=none/\a=c)\/∃k x,mx=some (.c (.v (.int k x)))/\a=x.toNat/\(0<=x/\x<=(c:Int))):=by
     unfold KG at ht;split at ht
     ·simp only [Qq4,Qn1] at ht;exact .inl ⟨rfl,ht.2.symm⟩
     ·rename_i k x;simp only [Qq4,Qn1] at ht;obtain ⟨rfl,rfl⟩:=ht;exact .inr ⟨k,x,rfl,rfl,hsc _ (by simp)⟩
     ·cases ht
    have d:((hi=none/\mx=none/\b=len)\/∃k x,hi=some (.c (.v (.int k x)))/\b=x.toNat/\(0<=x/\x<=(a:Int))):=by
     unfold IZ at hh;split at hh
     ·rename_i k x;simp only [Qq4,Qn1] at hh;obtain ⟨rfl,rfl⟩:=hh;exact .inr ⟨k,x,rfl,rfl,hsc _ (by simp)⟩
     ·simp only [Qq4,Qn1] at hh;exact .inl ⟨rfl,rfl,hh.2.symm⟩
     ·cases hh
    have e:((lo=none/\f=none)\/∃k x,lo=some (.c (.v (.int k x)))/\f=some x.toNat/\(0<=x/\x<=(b:Int))):=by
     unfold M4 at hl;split at hl
     ·simp only [Qq4,Qn1] at hl;exact .inl ⟨rfl,hl.2.symm⟩
     ·rename_i k x;simp only [Qq4,Qn1] at hl;obtain ⟨rfl,rfl⟩:=hl;exact .inr ⟨k,x,rfl,rfl,hsc _ (by simp)⟩
     ·cases hl
    clear ht hh hl hsc
    rcases hm with ⟨rfl,rfl⟩|⟨n,o,rfl,rfl,q⟩<;>rcases d with ⟨rfl,hx,rfl⟩|⟨k2,x2,rfl,rfl,b2⟩<;>rcases e with ⟨rfl,rfl⟩|⟨k3,x3,rfl,rfl,b3⟩ <;>
     (try cases hx) <;>
     simp only [Instr.sliceBounds,Option.map_none,Qh7,SV.den,C.den,Sem.run_bind,Sem.run_pure,Result.andThen_ok,Qs9,Qc5,Option.isSome_none,Option.isSome_some,if_true,Qz9,if_false] <;>
     (repeat (rw [FX _ (by assumption)];simp only [Result.andThen_ok]))
theorem Ef (hT:cG.ok P T){t:TypeId}{i:TI}(hi:kP P t=some i){e:TypeId}(hk:i.k=.slice e){ei:TI}(he:aB T e=some ei){x:SV}{lo hi' mx:Option SV}{sc:List Prop}{v:SV}
  (h:qN ei.size x lo hi' mx=.ret sc v)(hsc:∀p∈sc,p) :
  (Instr.sliceAt t (x.den β) (lo.map (SV.den β)) (hi'.map (SV.den β)) (mx.map (SV.den β))).run P w=.ok (v.den β) w/\∀s∈v.ids,s∈x.ids:=by
 obtain ⟨info,d,z,y,g,A,u,B,D,E⟩:=aC hi;obtain ⟨F,G,H,j,I,J,K,r,L,M⟩:=aC (hT _ _ he);rw [u] at hk;obtain rfl:=aW hk;have b:∀p:OA,p.map (fun x=>x.add 0)=p:=by intro p;cases p<;>simp [Addr.add]
 unfold qN at h;split at h
 ·rename_i N len c;split at h
  ·rename_i n q m a;simp only [Q.ret.injEq] at h;obtain ⟨rfl,rfl⟩:=h;have:=gw (P:=P) (w:=w) (β:=β) a hsc;refine ⟨?_,fun s f=>f⟩;simp only [Instr.sliceAt,Instr.slice,SV.den,C.den,Sem.run_bind,aj g,Result.andThen_ok,this,aI j,Sem.run_pure,Qs9,Qd0,Nat.sub_zero,b,ite_self]
  ·rename_i n l q m a;simp only [Q.ret.injEq] at h;obtain ⟨rfl,rfl⟩:=h;have:=gw (P:=P) (w:=w) (β:=β) a hsc;refine ⟨?_,fun s f=>f⟩;simp only [Instr.sliceAt,Instr.slice,SV.den,C.den,Sem.run_bind,aj g,Result.andThen_ok,this,aI j,Sem.run_pure,Qc5,r];rfl
  ·cases h
 ·rename_i s o len c;split at h
  ·rename_i n q m a;simp only [Q.ret.injEq] at h;obtain ⟨rfl,rfl⟩:=h;have:=gw (P:=P) (w:=w) (β:=β) a hsc;refine ⟨?_,fun s f=>by simpa [SV.ids,C.ids] using f⟩;simp only [Instr.sliceAt,Instr.slice,SV.den,C.den,Sem.run_bind,aj g,Result.andThen_ok,this,aI j,Sem.run_pure,Qs9,Qd0,Nat.sub_zero,b,ite_self]
  ·rename_i n l q m a;simp only [Q.ret.injEq] at h;obtain ⟨rfl,rfl⟩:=h;have:=gw (P:=P) (w:=w) (β:=β) a hsc;refine ⟨?_,fun s f=>by simpa [SV.ids,C.ids] using f⟩;simp only [Instr.sliceAt,Instr.slice,SV.den,C.den,Sem.run_bind,aj g,Result.andThen_ok,this,aI j,Sem.run_pure,Qc5,r];congr 2;unfold Vd;split<;>simp [dW]
  ·cases h
 ·rename_i s len c;split at h
  ·split at h
   ·rename_i n q m a;simp only [Q.ret.injEq] at h;obtain ⟨rfl,rfl⟩:=h
    have hm:m=c:=by
     unfold mH at a;simp only [KG] at a;split at a
     ·cases a
     ·split at a
      ·cases a
      ·simp only [Qq4,Qn1] at a;exact a.2.2.2.symm
    have:=gw (P:=P) (w:=w) (β:=β) a hsc;refine ⟨?_,fun s f=>by simpa [SV.ids,C.ids] using f⟩;simp only [Instr.sliceAt,Instr.slice,SV.den,C.den,Sem.run_bind,aj g,Result.andThen_ok,this,aI j,Sem.run_pure,Qs9,Qd0,Nat.sub_zero,b,ite_self,hm]
   ·cases h
  ·cases h
 ·cases h
end Go.Eng
namespace Go.Eng
variable {P:Program} {T:cG} {n:Nat} {V0:View} {bu:Dn} {β0:Nat->Nat} {st:St} {β:Nat->Nat} {a:Act} {w:World} {V:View}
theorem dg {s:Sem Value}{v:Value}{w':World}(h:s.run P w=.ok v w'):(do pure (Next.value (←s)):Sem Next).run P w=.ok (.value v) w':=by
 simp [h]
theorem PW {s:Sem Unit}{w':World}(h:s.run P w=.ok () w'):(do s;pure Next.skip:Sem Next).run P w=.ok .skip w':=by
 simp [h]
theorem qz {f:Int->Int->Int}{k:IntKind}{g:Value->Value->Sem Value}(hg:∀x y k',(g (.int k x) (.int k' y))=pure (.int k (f x y))):∀(r:List SV)(x m:Int),foldI f k x r=some m ->
  ((r.map (SV.den β)).foldlM g (.int k x)).run P w=.ok (.int k m) w
 | [],x,m,h=>by simp only [foldI,Qq4] at h;subst h;rfl
 | y::r,x,m,h=>by
  unfold foldI at h;split at h
  ·rename_i e;cases e
  ·rename_i k' b r' e;simp only [Qk7] at e;obtain ⟨rfl,rfl⟩:=e;split at h
   ·simp only [Qb9,List.foldlM_cons,SV.den,C.den,hg,pure_bind];exact qz hg r _ m h
   ·cases h
  ·cases h
theorem FB:∀{cs:List C} {l:List (OA×Nat×Nat)} {k:Nat},FA cs=some l->k<l.length->cs[k]?=some (.v (.slice (l.getD k (none,0,0)).1 (l.getD k (none,0,0)).2.1 (l.getD k (none,0,0)).2.2))
 | [],l,k,h,hk=>by cases h;cases hk
 | c::r,l,k,h,hk=>by
  unfold FA at h;split at h
  ·cases ‹_=[]›
  ·rename_i p n d r' e;cases e;split at h
   ·rename_i l' hl';cases h
    cases k with
    | zero=>rfl
    | succ k=>simpa using FB hl' (by simpa using hk)
   ·cases h
  ·cases h
theorem rG {d:TypeDesc}(h:jH d=.str):d=.string:=by cases d<;>simp_all [jH]
theorem Aw {b:Builtin}{xs:List SV}{t:TypeId}{ts:List TypeId}{ty:TypeId}{cs:Array Bool}{i:TI}(hi:kP P t=some i){sc:List Prop}{v:SV}(h:kf b i.k xs=.ret sc v) :
  (builtin b (t::ts).toArray ty cs (xs.map (SV.den β)).toArray).run P w=.ok (.value (v.den β)) w/\v.ids=[]:=by
 obtain ⟨info,d,z,u,l,A,n,B,D,E⟩:=aC hi;unfold kf at h;split at h
 ·cases h
 ·rename_i x r;split at h
  ·split at h
   ·rename_i e p m c j;rw [n] at j;obtain rfl:=aW j;simp only [Q.ret.injEq] at h;obtain ⟨rfl,rfl⟩:=h;refine ⟨?_,rfl⟩;simp [builtin,Builtin.len_,aj l,SV.den,C.den,goInt]
   ·rename_i e s o m c j;rw [n] at j;obtain rfl:=aW j;simp only [Q.ret.injEq] at h;obtain ⟨rfl,rfl⟩:=h;refine ⟨?_,rfl⟩;simp [builtin,Builtin.len_,aj l,SV.den,C.den,goInt]
   ·rename_i e s m c j;rw [n] at j;obtain rfl:=aW j;simp only [Q.ret.injEq] at h;obtain ⟨rfl,rfl⟩:=h;refine ⟨?_,rfl⟩;simp [builtin,Builtin.len_,aj l,SV.den,C.den,goInt]
   ·rename_i s j;rw [n] at j;obtain rfl:=rG j;simp only [Q.ret.injEq] at h;obtain ⟨rfl,rfl⟩:=h;refine ⟨?_,rfl⟩;simp [builtin,Builtin.len_,aj l,SV.den,C.den,goInt]
   ·cases h
  ·split at h
   ·rename_i e p m c j;rw [n] at j;obtain rfl:=aW j;simp only [Q.ret.injEq] at h;obtain ⟨rfl,rfl⟩:=h;refine ⟨?_,rfl⟩;simp [builtin,Builtin.cap_,aj l,SV.den,C.den,goInt]
   ·rename_i e s o m c j;rw [n] at j;obtain rfl:=aW j;simp only [Q.ret.injEq] at h;obtain ⟨rfl,rfl⟩:=h;refine ⟨?_,rfl⟩;simp [builtin,Builtin.cap_,aj l,SV.den,C.den,goInt]
   ·rename_i e s m c j;rw [n] at j;obtain rfl:=aW j;simp only [Q.ret.injEq] at h;obtain ⟨rfl,rfl⟩:=h;refine ⟨?_,rfl⟩;simp [builtin,Builtin.cap_,aj l,SV.den,C.den,goInt]
   ·cases h
  ·split at h
   ·rename_i k a;split at h
    ·rename_i m hm;simp only [Q.ret.injEq] at h;obtain ⟨rfl,rfl⟩:=h;refine ⟨?_,rfl⟩;have:=qz (P:=P) (w:=w) (β:=β) (f:=bN) (k:=k) (g:=Builtin.min2) (fun x y q=>by simp [Builtin.min2,bN]) r a m hm;simp [builtin,Builtin.min_,SV.den,C.den] at this ⊢;rw [this];rfl
    ·cases h
   ·cases h
  ·split at h
   ·rename_i k a;split at h
    ·rename_i m hm;simp only [Q.ret.injEq] at h;obtain ⟨rfl,rfl⟩:=h;refine ⟨?_,rfl⟩;have:=qz (P:=P) (w:=w) (β:=β) (f:=bM) (k:=k) (g:=Builtin.max2) (fun x y q=>by simp [Builtin.max2,bM]) r a m hm;simp [builtin,Builtin.max_,SV.den,C.den] at this ⊢;rw [this];rfl
    ·cases h
   ·cases h
  ·cases h
theorem HK {x:Bool×List C}{y:SV}(h:qu x=some y):gY β x=y.den β/\∀s∈y.ids,s∈x.2.flatMap C.ids:=by
 obtain ⟨b,cs⟩:=x
 cases b with
 | true=>simp only [qu,Qq4] at h;subst h;exact ⟨rfl,fun s a=>a⟩
 | false=>
  match cs,h with
  | [],h=>simp [qu] at h
  | [c],h=>simp only [qu,Qq4] at h;subst h;exact ⟨rfl,fun s a=>by simpa [SV.ids] using a⟩
  | _::_::_,h=>simp [qu] at h
theorem rP:∀(xs:List SV)(ss:List Nat),vt xs=some ss->xs.map (SV.den β)=(ss.map fun s=>Value.pointer (some ⟨β s,0,none⟩))/\∀s∈ss,∃x∈xs,s∈x.ids
 | [],ss,h=>by simp only [vt,Qq4] at h;subst h;exact ⟨rfl,fun s hs=>by cases hs⟩
 | x::r,ss,h=>by
  unfold vt at h;split at h
  ·rename_i e;cases e
  ·rename_i s r' e;simp only [Qk7] at e;obtain ⟨rfl,rfl⟩:=e;split at h
   ·rename_i l d;simp only [Qq4] at h;subst h;obtain ⟨f,g⟩:=rP r l d;refine ⟨by simp [f,SV.den,C.den],fun b a=>?_⟩;rcases Qq6.1 a with rfl|a
    ·exact ⟨.c (.ptr b 0),by simp,by simp [SV.ids,C.ids]⟩
    ·obtain ⟨y,i,a⟩:=g b a;exact ⟨y,Qq8 _ i,a⟩
   ·cases h
  ·cases h
theorem vo (hM:Mod n V0 bu β0 st β a w V){x:Option Operand}{v:Option SV}(h:Aq st.aY x=some v):x.map a.eval=v.map (SV.den β):=by
 cases x with
 | none=>simp only [Aq,Qq4] at h;subst h;rfl
 | some o=>
  simp only [Aq] at h;split at h
  ·rename_i y b;simp only [Qq4] at h;subst h;simp [hM.eval b]
  ·cases h
theorem mF {x y:SV}(hx:Live st x)(h:∀s∈y.ids,s∈x.ids):Live st y:=fun s a=>hx s (h s a)
theorem kT {bx:Nat->Option aP}{t:TypeId}{x:SV}:kS T bx t x=.fail\/∃sc s b,kS T bx t x=.sN sc s b:=by
 unfold kS;split<;>(try split)<;>(try split)<;>(try split)<;>(try split)<;>(try split)<;>first|exact .inl rfl|exact .inr ⟨_,_,_,rfl⟩
theorem Ed {bx:Nat->Option aP}{t:TypeId}{x:SV}{sc:List Prop}{v:SV}(h:kS T bx t x=.ret sc v):False:=by
 rcases kT (T:=T) (bx:=bx) (t:=t) (x:=x) with e|⟨_,_,_,e⟩<;>rw [e] at h<;>cases h
theorem Cq {bx:Nat->Option aP}{e:TypeId}{ei:TI}{b x:SV}{sc:List Prop}{v:SV}(h:bV bx e ei b x=.ret sc v):False:=by
 unfold bV at h;split at h
 ·cases h
 ·split at h
  ·cases h
  ·dsimp only at h;split at h
   ·cases h
   ·split at h
    ·cases h
    ·split at h
     ·split at h<;>cases h
     ·cases h
    ·split at h
     ·split at h<;>cases h
     ·cases h
    ·cases h
theorem GH (hT:cG.ok P T)(hM:Mod n V0 bu β0 st β a w V){o:Oper}{sc:List Prop}{v:SV}(h:aK T st.aY st.boxes o.op=.ret sc v)(hsc:∀p∈sc,p) :
  (execOp a.eval o).run P w=.ok (.value (v.den β)) w/\Live st v:=by
 unfold aK at h;split at h
 case h_1 op x hop=>
  split at h
  ·rename_i y hy;simp only [Q.ret.injEq] at h;obtain ⟨rfl,rfl⟩:=h;refine ⟨?_,hM.live hy⟩;simp only [execOp,hop,hM.eval hy];rfl
  ·cases h
 case h_2 op x hop=>
  split at h
  ·rename_i y hy;simp only [Q.ret.injEq] at h;obtain ⟨rfl,rfl⟩:=h;refine ⟨?_,hM.live hy⟩;simp only [execOp,hop,hM.eval hy];rfl
  ·cases h
 case h_3 op c x y hop=>
  split at h
  ·rename_i hc;split at h
   ·rename_i z hz;simp only [Q.ret.injEq] at h;obtain ⟨rfl,rfl⟩:=h;refine ⟨?_,hM.live hz⟩;simp [execOp,hop,hM.eval hz,hM.eval hc,SV.den,C.den,asBool]
   ·cases h
  ·rename_i hc;split at h
   ·rename_i z hz;simp only [Q.ret.injEq] at h;obtain ⟨rfl,rfl⟩:=h;refine ⟨?_,hM.live hz⟩;simp [execOp,hop,hM.eval hz,hM.eval hc,SV.den,C.den,asBool]
   ·cases h
  ·cases h
 case h_4=>split at h<;>cases h
 case h_5=>
  split at h
  ·split at h<;>cases h
  ·cases h
 case h_6 op t parts hop=>
  split at h
  ·rename_i i ps hi hps;have hi:=hT _ _ hi;split at h
   ·rename_i fs hk;split at h
    ·rename_i pl hpl;split at h
     ·rename_i cs hcs;simp only [Q.ret.injEq] at h;obtain ⟨rfl,rfl⟩:=h;obtain ⟨h1,h2⟩:=zJ hT hM hi hk hps hpl hcs hsc;refine ⟨?_,h2⟩;simp only [execOp,hop];exact dg h1
     ·cases h
    ·cases h
   ·rename_i m e hk;split at h
    ·rename_i ei BU;split at h
     ·rename_i cs hcs;simp only [Q.ret.injEq] at h;obtain ⟨rfl,rfl⟩:=h;obtain ⟨h1,h2⟩:=Bs hT hM hi hk hps BU hcs hsc;refine ⟨?_,h2⟩;simp only [execOp,hop];exact dg h1
     ·cases h
    ·cases h
   ·cases h
  ·cases h
 case h_7=>
  split at h
  ·split at h
   ·split at h
    ·split at h
     ·split at h<;>cases h
     ·cases h
    ·cases h
   ·cases h
  ·cases h
 case h_8 op t x hop=>
  split at h
  ·rename_i i y hi hy;obtain ⟨h1,h2⟩:=zi hM (hT _ _ hi) h;refine ⟨?_,h2⟩;simp only [execOp,hop,hM.eval hy];exact dg h1
  ·cases h
 case h_9=>
  split at h
  ·unfold fR at h;split at h
   ·split at h
    ·split at h
     ·split at h<;>cases h
     ·split at h<;>cases h
     ·split at h
      ·cases h
      ·split at h<;>cases h
     ·cases h
    ·cases h
   ·cases h
  ·cases h
 case h_10 op x hop=>
  split at h
  ·rename_i s o hx;simp only [Q.ret.injEq] at h;obtain ⟨rfl,rfl⟩:=h;refine ⟨?_,hM.live hx⟩;simp [execOp,hop,hM.eval hx,SV.den,C.den]
  ·rename_i p hx;simp only [Q.ret.injEq] at h;obtain ⟨rfl,rfl⟩:=h;obtain ⟨ad,rfl⟩:=Qg3.1 (hsc (p.isSome=true) (by simp));refine ⟨?_,hM.live hx⟩;simp [execOp,hop,hM.eval hx,SV.den,C.den]
  ·cases h
 case h_11 op Wv xt x y yt hop=>
  split at h
  ·rename_i p q hp hq
   have key:(q=.v .nilIface->∃c,y=.const c)->Av T Wv xt p q=.ret sc v->(execOp a.eval o).run P w=.ok (.value (v.den β)) w/\Live st v:=by
    intro hc h;obtain ⟨h1,h2⟩:=IY (P:=P) (w:=w) (β:=β) hT (ox:=x) (oy:=y) h hsc hc;refine ⟨?_,bL h2⟩;simp only [execOp,hop,hM.eval hp,hM.eval hq];exact dg h1
   split at h
   ·split at h
    ·exact key (fun _=>⟨_,rfl⟩) h
    ·cases h
   ·rename_i hne;exact key (fun e=>absurd e hne) h
  ·cases h
 case h_12 op t x hop=>
  split at h
  ·rename_i hx;simp only [Q.ret.injEq] at h;obtain ⟨rfl,rfl⟩:=h;refine ⟨?_,bL rfl⟩;simp [execOp,hop,hM.eval hx,SV.den,C.den,Op.unary]
  ·rename_i hx;simp only [Q.ret.injEq] at h;obtain ⟨rfl,rfl⟩:=h;refine ⟨?_,bL rfl⟩;simp [execOp,hop,hM.eval hx,SV.den,C.den,Op.unary]
  ·rename_i b hx;simp only [Q.ret.injEq] at h;obtain ⟨rfl,rfl⟩:=h;refine ⟨?_,bL rfl⟩;simp [execOp,hop,hM.eval hx,SV.den,C.den,Op.unary]
  ·cases h
 case h_13 op t x hop=>
  split at h
  ·rename_i k m hx;simp only [Q.ret.injEq] at h;obtain ⟨rfl,rfl⟩:=h;refine ⟨?_,bL rfl⟩;simp [execOp,hop,hM.eval hx,SV.den,C.den,Op.unary,Op.intBits,aV]
  ·cases h
 case h_14 op t x hop=>
  split at h
  ·rename_i k m hx;simp only [Q.ret.injEq] at h;obtain ⟨rfl,rfl⟩:=h;refine ⟨?_,bL rfl⟩;simp [execOp,hop,hM.eval hx,SV.den,C.den,Op.unary,Op.intArith]
  ·cases h
 case h_15 op src dst x hop=>
  split at h
  ·rename_i i0 i k m hi0 hi hx;obtain ⟨Lr,d0,z0,g1,g2,-⟩:=aC (hT _ _ hi0);obtain ⟨info,d,z,h1,h2,h3,h4,h5,h6,h7⟩:=aC (hT _ _ hi);split at h
   ·rename_i k' hk;rw [h4] at hk;obtain rfl:=BK hk;simp only [Q.ret.injEq] at h;obtain ⟨rfl,rfl⟩:=h;refine ⟨?_,bL rfl⟩;simp only [execOp,hop,hM.eval hx];refine dg ?_;simp only [convert,Sem.run_bind,aj g2,aj h2,Result.andThen_ok,SV.den,C.den];cases d0<;>rfl
   ·cases h
  ·cases h
 case h_16 op f first caps hop=>
  split at h
  ·rename_i hf;split at h
   ·rename_i xs hxs;split at h
    ·rename_i ss hss;simp only [Q.ret.injEq] at h;obtain ⟨rfl,rfl⟩:=h;obtain ⟨h1,h2⟩:=eV hM _ _ hxs;obtain ⟨h3,h4⟩:=rP (β:=β) _ _ hss;refine ⟨?_,fun s hs=>?_⟩
     ·have e1:first=#[]:=by apply Qn6;exact hf
      have e2:caps.map a.eval=(ss.map fun s=>Value.pointer (some ⟨β s,0,none⟩)).toArray:=by
       apply Qn6;rw [Qc4,h1,h3]
      simp [execOp,hop,Instr.makeFunc,e1,e2,SV.den,C.den]
     ·obtain ⟨x,hx,hs'⟩:=h4 s hs;exact h2 x hx s hs'
    ·cases h
   ·cases h
  ·cases h
 case h_17=>
  split at h
  ·unfold zj at h;split at h
   ·split at h
    ·split at h
     ·split at h
      ·split at h<;>cases h
      ·cases h
     ·cases h
    ·cases h
   ·cases h
  ·cases h
 case h_18 op t x lo hi mx hop=>
  split at h
  ·rename_i i xv l h' m hi' hx hl hh hm;have hi':=hT _ _ hi';split at h
   ·rename_i e hk;split at h
    ·rename_i ei BU;obtain ⟨h1,h2⟩:=Ef (P:=P) (w:=w) (β:=β) hT hi' hk BU h hsc;refine ⟨?_,mF (hM.live hx) h2⟩;simp only [execOp,hop,hM.eval hx,vo hM hl,vo hM hh,vo hM hm];exact dg h1
    ·cases h
   ·cases h
  ·cases h
 case h_19 op t x f hop=>
  split at h
  ·rename_i i xv hi hx;have hi:=hT _ _ hi;split at h
   ·rename_i fs hk;split at h
    ·rename_i ft off hf;split at h
     ·rename_i fi hfi;split at h
      ·cases h
      ·rename_i hs;have hs:fi.size≠0:=fun e=>hs (beq_eq.2 e);split at h
       ·rename_i s o';simp only [Q.ret.injEq] at h;obtain ⟨rfl,rfl⟩:=h;have:=rI (w:=w) hT hi hk hf hfi hs ⟨β s,o',none⟩;rw [dW] at this;refine ⟨?_,mF (hM.live hx) (fun s hs=>by simpa [SV.ids,C.ids] using hs)⟩;simp only [execOp,hop,hM.eval hx];exact dg this
       ·rename_i p;simp only [Q.ret.injEq] at h;obtain ⟨rfl,rfl⟩:=h;obtain ⟨ad,rfl⟩:=Qg3.1 (hsc (p.isSome=true) (by simp));have:=rI (w:=w) hT hi hk hf hfi hs ad;refine ⟨?_,bL rfl⟩;simp only [execOp,hop,hM.eval hx];exact dg this
       ·cases h
     ·cases h
    ·cases h
   ·cases h
  ·cases h
 case h_20 op t x f hop=>
  split at h
  ·rename_i i cs hi hx;have hi:=hT _ _ hi;split at h
   ·rename_i fs hk;split at h
    ·rename_i ft off hf;split at h
     ·rename_i fi hfi;obtain ⟨g1,g2⟩:=Gg (P:=P) (w:=w) (β:=β) hT hi hk hf hfi (cs:=cs)
      have hagg:pW fi.k=true->Q.ret [] (.agg ((cs.drop off).take fi.size))=.ret sc v->(execOp a.eval o).run P w=.ok (.value (v.den β)) w/\Live st v:=by
       intro hk' h;simp only [Q.ret.injEq] at h;obtain ⟨rfl,rfl⟩:=h;refine ⟨?_,mF (hM.live hx) fun s hs=>?_⟩
       ·simp only [execOp,hop,hM.eval hx];exact dg (g1 hk')
       ·obtain ⟨c,hc,hs⟩:=Qw6.1 hs;exact gu (Qd5 (Qb7 hc)) hs
      split at h
      ·rename_i hk';exact hagg (by rw [hk'];rfl) h
      ·rename_i hk';exact hagg (by rw [hk'];rfl) h
      ·rename_i hk1 hk2
       have hk':pW fi.k=false:=by
        cases hik:fi.k<;>first|rfl|exact absurd hik (hk1 _)|exact absurd hik (hk2 _ _)
       split at h
       ·rename_i c hc;simp only [Q.ret.injEq] at h;obtain ⟨rfl,rfl⟩:=h;refine ⟨?_,mF (hM.live hx) fun s hs=>?_⟩
        ·simp only [execOp,hop,hM.eval hx];exact dg (g2 c hk' hc)
        ·exact gu (Qv9 hc) hs
       ·cases h
     ·cases h
    ·cases h
   ·cases h
  ·cases h
 case h_21 op t x ix hop=>
  split at h
  ·rename_i i xv iv hi hx hix;obtain ⟨h1,h2⟩:=vw (P:=P) (w:=w) (β:=β) hT (hT _ _ hi) h hsc;refine ⟨?_,mF (hM.live hx) h2⟩;simp only [execOp,hop,hM.eval hx,hM.eval hix];exact dg h1
  ·cases h
 case h_22 op x j hop=>
  split at h
  ·rename_i xs hx;split at h
   ·rename_i y hy;split at h
    ·rename_i z hz;simp only [Q.ret.injEq] at h;obtain ⟨rfl,rfl⟩:=h;obtain ⟨h1,h2⟩:=HK (β:=β) hz;refine ⟨?_,mF (hM.live hx) fun s hs=>Qw6.2 ⟨y,Qv9 hy,h2 s hs⟩⟩;have:(xs.map (gY β))[j]?=some (z.den β):=by rw [Qd7,hy];simp [h1]
     simp [execOp,hop,hM.eval hx,SV.den,Instr.extract,hy,h1]
    ·cases h
   ·cases h
  ·cases h
 case h_23 op c hop=>
  split at h
  ·split at h
   ·split at h
    ·split at h
     ·split at h
      ·exact (Cq h).elim
      ·cases h
     ·cases h
    ·cases h
   ·cases h
  ·split at h
   ·exact (Ed h).elim
   ·cases h
  ·rename_i b hb hb2 hc;split at h
   ·rename_i xs t ts hxs hts;split at h
    ·rename_i i hi;obtain ⟨h1,h2⟩:=eV hM _ _ hxs;have e1:c.argTypes=(t::ts).toArray:=by apply Qn6;exact hts
     have e2:c.args.map a.eval=(xs.map (SV.den β)).toArray:=by apply Qn6;rw [Qc4];exact h1
     obtain ⟨k1,k2⟩:=Aw (P:=P) (w:=w) (β:=β) (ts:=ts) (ty:=o.type) (cs:=c.args.map fun|.const _=>true|_=>false) (hT _ _ hi) h;refine ⟨?_,bL k2⟩;simp only [execOp,hop,resolve,hc,pure_bind,invoke,e1,e2];exact k1
    ·cases h
   ·cases h
  ·cases h
 case h_24 op t x ix hop=>
  split at h
  ·rename_i i s k m hi hx hix;split at h
   ·rename_i hk;obtain ⟨info,d,z,h1,h2,h3,h4,h5,h6,h7⟩:=aC (hT _ _ hi);rw [h4] at hk;obtain rfl:=rG hk;simp only [Q.ret.injEq] at h;obtain ⟨rfl,rfl⟩:=h;have hb:=hsc _ (Qx0.2 rfl);refine ⟨?_,bL rfl⟩;have hlt:m.toNat<s.size:=by omega
    have e:s.data.toList.getD m.toNat 0=s[m.toNat]'hlt:=by
     have:s.data.toList[m.toNat]?=some (s[m.toNat]'hlt):=by
      rw [Array.getElem?_toList];exact Array.getElem?_eq_getElem (by simpa using hlt)
     rw [Qw3,this];rfl
    simp only [execOp,hop,hM.eval hx,hM.eval hix,SV.den,C.den];refine dg ?_;rw [run_index_string (w:=w) t s k m h2,dif_pos hb,e]
   ·cases h
  ·rename_i i cs k m hi hx hix;unfold kg at h;split at h
   ·rename_i n e hk;split at h
    ·rename_i ei l BU hl;split at h
     ·rename_i e2 hek;split at h
      ·rename_i hb;rw [Qx5] at hb;simp only [Q.ret.injEq] at h;obtain ⟨rfl,rfl⟩:=h;have hm:=hsc _ (Qx0.2 rfl);obtain ⟨info,d,z,h1,h2,h3,h4,h5,h6,h7⟩:=aC (hT _ _ hi);rw [h4] at hk;obtain rfl:=lI hk;obtain ⟨gk,ed,ez,e1,e2,e3,e4,e5,e6,e7⟩:=aC (hT _ _ BU);refine ⟨?_,bL rfl⟩;have b1:=beq_eq.1 hb.1;have b2:=beq_eq.1 hb.2;have hc:=FB hl (show m.toNat<l.length by omega);have hp:=(Cn (w:=w) (β:=β) (hT _ _ BU) cs m.toNat).2 _ (by rw [hek];rfl) hc;simp only [execOp,hop,hM.eval hx,hM.eval hix];refine dg ?_;have es:m.toNat*gk.size=m.toNat:=by rw [←e5,b1,Qk8]
       simp only [Instr.index,SV.den,C.den,di,Sem.run_bind,Result.andThen_ok,aj h2,Sem.run_ite,if_pos hm,aI e1,es];exact hp
      ·cases h
     ·cases h
    ·cases h
   ·cases h
  ·cases h
 case h_25 op t x hop=>
  split at h
  ·rename_i i y hi hx;obtain ⟨info,d,z,h1,h2,h3,h4,h5,h6,h7⟩:=aC (hT _ _ hi);unfold vv at h;split at h
   ·cases h
   ·rename_i hk;split at h
    ·rename_i eY Xq;simp only [Q.ret.injEq] at h;obtain ⟨rfl,rfl⟩:=h;refine ⟨?_,bL rfl⟩;simp only [execOp,hop,hM.eval hx];refine dg ?_;have hd:∀ms,d≠.interface ms:=fun ms e=>by rw [e] at h4;exact hk h4
     have e2:y.den β=y.den fun _=>0:=SV.bC fun s hs=>by rw [eY] at hs;cases hs
     show (Instr.makeInterface t (y.den β)).run P w=.ok (.iface t (y.den fun _=>0)) w;rw [e2];generalize y.den (fun _=>0)=u;simp only [Instr.makeInterface,Sem.run_bind,aj h2,Result.andThen_ok];cases d<;>first|rfl|exact absurd rfl (hd _)
    ·cases h
  ·cases h
 case h_26=>cases h
end Go.Eng
