import Derived.Test.YtobpmgpnbbcgjaaGreatDoorG3
set_option linter.all false
open Go.IntKind (i64 u64 u32)
namespace Go.Eng
section
variable {P:Program} {T:dT} {n:Nat} {V0:Ó} {bQ:KZ} {β0:Nat->Nat} {st:St} {β:Nat->Nat} {a:Act} {w:World} {V:Ó}
def LY {t:TypeId}{name:String}{f:FuncId}(h:LX P t name=some f)(k:Nat)(v:un)(w:World):(Go.method (k+1) t v name).run P w=.ok (f,v) w:=by unfold LX at h;split at h;{rename_i i d b c;split at h;{rename_i m hm;split at h;{rename_i j l e g;cases h;have a:m.path=#[]:=by{apply ľ;exact e};simp only [Go.method,typeInfo,Sem.run_bind,run_program,Result.andThen_ok,b,hm,Sem.run_pure,a,follow,g,receiverAt,ai c,Place.get]};{cases h}};{cases h}};{cases h}
def x_ (hT:dT.ok P T)(E:ß n V0 bQ β0 st β a w V){m:CM}{o:Oper}{K:St->ut->Prop}{next:Act->World->Prop}{Q:Exit->Act->World->Prop}(M:∀d,o.dst=some d->d<n)(D:dR P T m o st V K)(N:∀F β' O w' V',ß n V0 bQ β0 F β' O w' V'->K F V'->next O w'):o.wp P a w next Q:=by unfold dR at D;split at D;{rename_i B args x e;split at D;{rename_i xs g;have ⟨q,y⟩:=hZ E _ _ g;split at D;{rename_i f r h;have ⟨i,j⟩:=tP (Q:=Q) E M D N;have k:args.map a.eval=(xs.map (SV.den β)).toArray:=by{apply ľ;rw [Qd9];exact q};have l:aI β (xs++A7 r)=(xs.map (SV.den β)).toArray++(r.map λs=>Value.pointer (some ⟨β s,0,none⟩)).toArray:=by{unfold aI A7;grind [SV.den,C.den]};have b:(execOp a.eval o).run P w=.ok (.enter f (aI β (xs++A7 r))) w:=by{rw [l];simp only [execOp,e,resolve,E.eval h,SV.den,C.den,Deferred.ofValue,pure_bind,invoke,k,Array.empty_append];exact i.run _};unfold Oper.wp;rw [b];exact j};{rename_i f p h;have ⟨i,j⟩:=tP (Q:=Q) E M D N;have k:args.map a.eval=(xs.map (SV.den β)).toArray:=by{apply ľ;rw [Qd9];exact q};have u:(p.map C.v).map (C.den β)=p:=by{rw [Qt6];exact List.map_id _};have l:aI β (.agg (p.map .v)::xs)=#[.agg p.toArray]++(xs.map (SV.den β)).toArray:=by{unfold aI;rw [Ķ,SV.den,u];simp};have b:(execOp a.eval o).run P w=.ok (.enter f (aI β (.agg (p.map .v)::xs))) w:=by{rw [l];simp only [execOp,e,resolve,E.eval h,SV.den,C.den,Deferred.ofValue,pure_bind,invoke,k,Array.append_empty];exact i.run _};unfold Oper.wp;rw [b];exact j};{exact D.elim}};{exact D.elim}};{rename_i recv name args x e;split at D;{rename_i xs g;have ⟨q,y⟩:=hZ E _ _ g;split at D;{rename_i t v h;split at D;{rename_i f z;have ⟨i,j⟩:=tP (Q:=Q) E M D N;have k:args.map a.eval=(xs.map (SV.den β)).toArray:=by{apply ľ;rw [Qd9];exact q};have l:aI β (.c (.w v)::xs)=#[v]++(xs.map (SV.den β)).toArray:=by{unfold aI;grind [SV.den,C.den]};have b:(execOp a.eval o).run P w=.ok (.enter f (aI β (.c (.w v)::xs))) w:=by{rw [l];have u:(#[Value.iface t v]++(xs.map (SV.den β)).toArray).extract 1 (#[Value.iface t v]++(xs.map (SV.den β)).toArray).size=(xs.map (SV.den β)).toArray:=χ;have A:(#[Value.iface t v]++(xs.map (SV.den β)).toArray)[0]?=some (Value.iface t v):=ψ;simp only [execOp,e,resolve,E.eval h,SV.den,C.den,pure_bind,invoke,k,A,u,callMethod,Sem.run_bind,run_program,Result.andThen_ok,Made.depth];rw [LY z];exact i.run _};unfold Oper.wp;rw [b];exact j};{exact D.elim}};{exact D.elim}};{exact D.elim}};{grind [JQ]}
theorem kQ (hT:dT.ok P T)(z:ß n V0 bQ β0 st β a w V){m:CM}{h:ù}{o:Oper}{K:St->ut->Prop}{next:Act->World->Prop}{Q:Exit->Act->World->Prop}(D:∀d,o.dst=some d->d<n)(u:dL P T m h o st V K)(E:∀y β' F w' V',ß n V0 bQ β0 y β' F w' V'->K y V'->next F w'):o.wp P a w next Q:=by unfold dL at u;split at u;{exact x_ hT z D u E};{split at u;{split at u;{exact x_ hT z D u E};{exact u.elim}};{exact u.elim}}
def ß.refine (u:ß n V0 bQ β0 st β a w V){g:Nat}{x y:SV}(E:st.ay g=some x)(he:x.den β=y.den β)(D:y.ids=[]):ß n V0 bQ β0 (st.put (some g) y) β a w V:=by refine ⟨u.defers,u.size,?_,?_,u.Du,u.boxes,u.inj,u.sw,u.yV,u.ext,u.own,u.nX,u.mG,u.small⟩;{grind [eA,u.ay]};{intro t z b;rw [eA] at b;split at b;{simp only [ÿ] at b;rw [<-b,D];exact λs c=>(nomatch c)};{exact u.Dv t z b}}
def M7 {ops:Array Oper}{tmps:Array un}{j g:Nat}(u:(ops[j]?).bind (·.dst)=some g):yielded ops tmps j=match tmps.getD g undef with|.bool b=>some b|_=>none:=by unfold yielded;rw [u];simp only [Option.bind_some];by_cases h:g<tmps.size;{have a:=getElem?_pos tmps g h;have c:tmps.getD g undef=tmps[g]:=by{simp [h]};grind};{simp [h,undef]}
def JC (hT:dT.ok P T)(z:ß n V0 bQ β0 st β a w V){m:CM}{h:ù}{ops:Array Oper}{o:Oper}{K:St->ut->Prop}{next:Act->World->Prop}{Q:Exit->Act->World->Prop}(D:∀d,o.dst=some d->d<n)(y:we P T m h ops o st V K)(E:∀F β' M w' V',ß n V0 bQ β0 F β' M w' V'->K F V'->next M w'):if Region.wanted o (yielded ops a.tmps) then o.wp P a w next Q else next (a.put o.dst undef) w:=by unfold we at y;split at y;{grind [Region.wanted,kQ]};{rename_i j b t;split at y;{exact y.elim};{rename_i g l;have u:=M7 (tmps:=a.tmps) l;have f:∀c:md,a.tmps.getD g undef=.bool c->(Region.wanted o (yielded ops a.tmps)=true↔c=b):=by{grind [Region.wanted]};have skip:∀{ia:St},ß n V0 bQ β0 ia β a w V->K (ia.put o.dst lM) V->next (a.put o.dst undef) w:=by{intro ia p q;exact E _ _ _ _ _ (p.JM D rfl (cu rfl)) q};split at y;{rename_i k;have i:=z.ay g _ k;split at y;{rw [Ä ((f true i).2 rfl)];exact kQ hT z D y E};{rw [Ã (λh=>by have:=(f true i).1 h;cases this)];exact skip z y}};{rename_i k;have i:=z.ay g _ k;split at y;{rw [Ã (λh=>by have:=(f false i).1 h;cases this)];exact skip z y};{rw [Ä ((f false i).2 rfl)];exact kQ hT z D y E}};{rename_i c k;have i:=z.ay g _ k;have r:c=true->ß n V0 bQ β0 (st.put (some g) (.c .tt)) β a w V:=λe=>z.refine k (by rw [e];rfl) rfl;have s:c=false->ß n V0 bQ β0 (st.put (some g) (.c .ff)) β a w V:=λe=>z.refine k (by rw [e];rfl) rfl;split at y;{(cases c with|true=>{rw [Ä ((f true i).2 rfl)];exact kQ hT (r rfl) D (y.1 rfl) E}|false=>{rw [Ã (λh=>by have:=(f false i).1 h;cases this)];exact skip (s rfl) (y.2 rfl)})};{(cases c with|true=>{rw [Ã (λh=>by have:=(f true i).1 h;cases this)];exact skip (r rfl) (y.1 rfl)}|false=>{rw [Ä ((f false i).2 rfl)];exact kQ hT (s rfl) D (y.2 rfl) E})}};{rename_i xs k;have i:=z.ay g _ k;grind [Region.wanted,SV.den]};{exact y.elim}}}
def Fy (hT:dT.ok P T){m:Nat->CM}{hint:Nat->ù}{ops:Array Oper}(E:∀(i:Nat)(o:Oper),ops[i]?=some o->∀d,o.dst=some d->d<n){Q:Exit->Act->World->Prop}{K:St->ut->Prop}(F:∀u β' z w' V',ß n V0 bQ β0 u β' z w' V'->K u V'->Q .normal z w'):∀(l:zA Nat)(st:St)(β:Nat->Nat)(a:Act)(w:World)(V:ut),ß n V0 bQ β0 st β a w V->T_ P T m hint ops l st V K->wpOps P ops Q l a w
 | [],st,β,a,w,V,D,y=>F _ _ _ _ _ D y
 | i::r,st,β,a,w,V,D,y=>by
  simp only [T_] at y;simp only [wpOps];split at y
  ·rename_i o M;rw [M];dsimp only;have:=JC (Q:=Q) (next:=wpOps P ops Q r) hT D (E i o M) y (λu β' z w' V' b c=>Fy hT E F r u β' z w' V' b c);grind
  ·exact y.elim
end
section
def ov (p:Nat->Option SV)(q:Nat->Option aZ)(st:St):St:=
 ⟨λt=>match p t with|some x=>some x|none=>st.ay t,λt=>match q t with|some x=>some x|none=>st.boxes t⟩
theorem gV {a b:Nat}(h:a≠b):Nat.beq a b=false:=by cases u:Nat.beq a b;{rfl};{exact Å (beq_eq.1 u) h}
section
variable {p:Nat->Option SV} {q:Nat->Option aZ} {st:St}
theorem lE {d:Option Nat}{x:SV}(h:∀k,d=some k->p k=none):(ov p q st).put d x=ov p q (st.put d x):=by (cases d with|none=>rfl|some d=>{have a:=h d rfl;simp only [ov,St.put];grind [gV]})
theorem oO {s:Nat}{b:aZ}(h:q s=none):(ov p q st).box s b=ov p q (st.box s b):=by simp only [ov,St.box];grind [gV]
theorem cI {s:Nat}(h:q s=none):(ov p q st).boxes s=st.boxes s:=by simp [ov,h]
def Wh {x:Operand}(h:∀t,x=.tmp t->p t=none):(ov p q st).bJ x=st.bJ x:=by (cases x with|tmp t=>simp [St.bJ,ov,h t rfl]|_=>rfl)
def one {α:Type}(d:Option Nat)(x:α):Nat->Option α:=λt=>match d with|some k=>cond (Nat.beq t k) (some x) none|none=>none
theorem eW {α:Type}{d:Option Nat}{x:α}{t:Nat}(h:d≠some t):one d x t=none:=by cases d<;>grind [one,gV]
theorem gE (d:Option Nat)(x:SV):st.put d x=ov (one d x) (λ_=>none) st:=by (cases d with|none=>rfl|some d=>grind [ov,St.put,one])
theorem QW (s:Nat)(b:aZ):st.box s b=ov (λ_=>none) (one (some s) b) st:=by grind [ov,St.box,one]
def EX (s:Nat)(b:aZ)(d:Option Nat)(x:SV):(st.box s b).put d x=ov (one d x) (one (some s) b) st:=by rw [gE,QW];rfl
end
def fO {ρ ρ':Operand->Option SV}:∀l:zA Operand,(∀x∈l,ρ x=ρ' x)->cN ρ l=cN ρ' l
 | [],_=>rfl
 | o::r,h=>by simp only [cN];rw [h o ψ,fO r λx u=>h x (by simp [u])]
def mO {ρ ρ':Operand->Option SV}:∀l:zA (Nat×Operand),(∀x∈l.map (·.2),ρ x=ρ' x)->õ ρ l=õ ρ' l
 | [],_=>rfl
 | (i,o)::r,h=>by simp only [õ];rw [h o ψ,mO r λx u=>h x (by simp only [Ķ,ê];exact .inr u)]
theorem Ma {ρ ρ':Operand->Option SV}:∀l:Option Operand,(∀x,l=some x->ρ x=ρ' x)->G2 ρ l=G2 ρ' l
 | none,_=>rfl
 | some o,h=>by simp only [G2];rw [h o rfl]
def qI {T:dT}{ρ ρ':Operand->Option SV}{bx:Nat->Option aZ}{op:Op}(h:∀x∈op.operands.toList,ρ x=ρ' x):aT T ρ bx op=aT T ρ' bx op:=by (cases op with|move x=>{simp only [aT];rw [h x (by simp [Op.operands])]}|assign x=>{simp only [aT];rw [h x (by simp [Op.operands])]}|pick c a b=>{simp only [aT];rw [h c (by simp [Op.operands]),h a (by simp [Op.operands]),h b (by simp [Op.operands])]}|box t x=>{simp only [aT];rw [h x (by simp [Op.operands])]}|build t u=>{simp only [aT];rw [mO _ λx g=>h x (by simpa [Op.operands] using g)]}|buildSlice t n u=>{simp only [aT];rw [mO _ λx g=>h x (by simpa [Op.operands] using g)]}|load t a=>{simp only [aT];rw [h a (by simp [Op.operands])]}|store t a x=>{simp only [aT];rw [h a (by simp [Op.operands]),h x (by simp [Op.operands])]}|nilCheck x=>{simp only [aT];rw [h x (by simp [Op.operands])]}|binOp o z x y D=>{simp only [aT];rw [h x (by simp [Op.operands]),h y (by simp [Op.operands])]}|unOp o z x=>{cases o<;>simp only [aT]<;>rw [h x (by simp [Op.operands])]}|convert s d x=>{simp only [aT];rw [h x (by simp [Op.operands])]}|makeFunc fn first caps=>{(cases fn with|func f=>{have k:cN ρ caps.toList=cN ρ' caps.toList:=fO _ λx g=>h x (by simp [Op.operands];exact .inr (by simpa using g));have l:∀x∈first.toList,ρ x=ρ' x:=λx g=>h x (by simp [Op.operands];exact .inl (by simpa using g));simp only [aT,k];(split<;>try rfl);rename_i x g;rw [l x (by rw [g];simp)]}|_=>rfl)}|makeSlice t a b=>{simp only [aT];rw [h a (by simp [Op.operands]),h b (by simp [Op.operands])]}|slice t x lo hi mx=>{simp only [aT];grind [Op.operands,Ma]}|fieldAddr t x f=>{simp only [aT];rw [h x (by simp [Op.operands])]}|field t x f=>{simp only [aT];rw [h x (by simp [Op.operands])]}|indexAddr t x i=>{simp only [aT];rw [h x (by simp [Op.operands]),h i (by simp [Op.operands])]}|extract x j=>{simp only [aT];rw [h x (by simp [Op.operands])]}|index t x i=>{simp only [aT];rw [h x (by simp [Op.operands]),h i (by simp [Op.operands])]}|makeInterface t x=>{simp only [aT];rw [h x (by simp [Op.operands])]}|call c=>{obtain ⟨m,args,p⟩:=c;(cases m with|builtin b=>{have e:cN ρ args.toList=cN ρ' args.toList:=fO _ λx g=>h x (by simpa [Op.operands,Call.operands] using g);cases b<;>simp only [aT]<;>rw [e]}|_=>rfl)}|_=>rfl)
def Tx {T:dT}{LF RF:zA Nat}{ρ:Operand->Option SV}{bx bx':Nat->Option aZ}{op:Op}(h:bF LF RF op=.pure\/bF LF RF op=.alloc):aT T ρ bx op=aT T ρ bx' op:=by (cases op with|load t a=>{rcases h with h|h<;>cases h}|store t a x=>{rcases h with h|h<;>cases h}|unOp o u x=>{cases o<;>rfl}|makeFunc fn first caps=>{cases fn<;>rfl}|call c=>{obtain ⟨d,args,e⟩:=c;(cases d with|builtin b=>{(cases b<;>first|rfl|(rcases h with h|h<;>cases h))}|_=>rfl)}|_=>rfl)
theorem Tz {bx bx':Nat->Option aZ}{i:TI}{x:SV}(h:∀s∈x.ids,bx' s=bx s):lG bx i x=lG bx' i x:=by unfold lG;grind [SV.ids,C.ids]
def PW {bx bx':Nat->Option aZ}{i:TI}{x y:SV}(h:∀s∈x.ids,bx' s=bx s):iY bx i x y=iY bx' i x y:=by unfold iY;grind [SV.ids,C.ids]
def Mj {bx:Nat->Option aZ}{i:TI}{x y:SV}{sc:zA Prop}{s:Nat}{b:aZ}(h:iY bx i x y=.zd sc s b):s∈x.ids:=by unfold iY at h;grind [SV.ids,C.ids]
def N_ {V:ut}{p:Addr}:∀(cs:zA C) (i:Nat) {k:Prop},V.Wq p i cs k↔V.Wq p i cs True/\k
 | [],_,k=>by simp [Ó.Wq]
 | c::r,i,k=>by
  simp only [Ó.Wq];rw [N_ r (i+1),and_assoc]
def TC {V V':ut}(h:V.Le V'){p:Addr}:∀(cs:zA C) (i:Nat) {k:Prop},V.Wq p i cs k->V'.Wq p i cs k
 | [],_,_,u=>u
 | c::r,i,_,u=>⟨h.at u.1,TC h r (i+1) u.2⟩
def vG {V:ut}{p:OA}{x:SV}{k:Prop}:V.Wp p x k↔V.Wp p x True/\k:=by (cases x with|agg cs=>{simp only [Ó.Wp];constructor;{rintro ⟨a,c,b⟩;rw [N_] at b;exact ⟨⟨a,c,b.1⟩,b.2⟩};grind}|_=>grind [Ó.Wp])
def ZJ {V V':ut}(h:V.Le V'){p:OA}{x:SV}{k:Prop}(u:V.Wp p x k):V'.Wp p x k:=by (cases x with|c c=>{obtain ⟨⟨a,b,d⟩,e⟩:=u;exact ⟨⟨a,b,h.at d⟩,e⟩}|agg cs=>{obtain ⟨a,b,d⟩:=u;exact ⟨a,b,TC h _ _ d⟩}|wG xs=>exact u)
def Dq.split:∀(s:Dq) {F:C->Prop},s.ex F->∃x,F x/\∀G:C->Prop,G x->s.ex G
 | .int _,_,⟨_,h⟩=>⟨_,h,λ_ g=>⟨_,g⟩⟩
 | .bool,_,⟨_,h⟩=>⟨_,h,λ_ g=>⟨_,g⟩⟩
 | .slice,_,⟨_,_,_,h⟩=>⟨_,h,λ_ g=>⟨_,_,_,g⟩⟩
 | .ptr,_,⟨_,h⟩=>⟨_,h,λ_ g=>⟨_,g⟩⟩
 | .str,_,⟨_,h⟩=>⟨_,h,λ_ g=>⟨_,g⟩⟩
 | .any,_,⟨_,h⟩=>⟨_,h,λ_ g=>⟨_,g⟩⟩
def rJ:∀(l:zA Dq) {F:zA C->Prop},YF l F->∃x,F x/\∀G:zA C->Prop,G x->YF l G
 | [],_,h=>⟨_,h,λ_ g=>g⟩
 | s::r,_,h=>by
  have ⟨c,u,y⟩:=Dq.split s h;have ⟨cs,a,b⟩:=rJ r u;exact ⟨c::cs,a,λG g=>y _ (b _ g)⟩
def Ar.split:∀(s:Ar) {F:SV->Prop},s.ex F->∃x,F x/\∀G:SV->Prop,G x->s.ex G
 | .one s,_,h=>by have ⟨c,u,y⟩:=Dq.split s h;exact ⟨.c c,u,λG g=>y _ g⟩
 | .agg l,_,h=>by have ⟨c,u,y⟩:=rJ l h;exact ⟨.agg c,u,λG g=>y _ g⟩
def xj:∀(l:zA Ar) {F:zA (md×zA C)->Prop},exT l F->∃x,F x/\∀G:zA (md×zA C)->Prop,G x->exT l G
 | [],_,h=>⟨_,h,λ_ g=>g⟩
 | .one s::r,_,h=>by
  have ⟨c,u,y⟩:=Dq.split s h;have ⟨cs,a,b⟩:=xj r u;exact ⟨_,a,λG g=>y _ (b _ g)⟩
 | .agg l::r,_,h=>by
  have ⟨c,u,y⟩:=rJ l h;have ⟨cs,a,b⟩:=xj r u;exact ⟨_,a,λG g=>y _ (b _ g)⟩
def Sh.split:∀(s:Sh) {F:SV->Prop},s.ex F->∃x,F x/\∀G:SV->Prop,G x->s.ex G
 | .val s,_,h=>Ar.split s h
 | .wG l,_,h=>by have ⟨x,u,y⟩:=xj l h;exact ⟨_,u,λG g=>y _ g⟩
 | .none,_,h=>⟨_,h,λ_ g=>g⟩
def Sh.s {s:Sh}{F G:SV->Prop}(h:s.ex F)(k:∀x,F x->G x):s.ex G:=by have ⟨x,a,b⟩:=s.split h;exact b G (k x a)
def Cv {l m:zA Nat}:T0 l m=true↔∀x∈l,x∈m:=by simp only [T0,ĥ,dP]
def BL {op:Op}{x:Operand}(h:x∈op.operands.toList){t:Nat}(e:x=.tmp t):t∈jV op:=by subst e;exact List.mem_filterMap.2 ⟨_,h,rfl⟩
def rS {st ia:St}{op:Op}(h:∀t∈jV op,ia.ay t=st.ay t){x:Operand}(u:x∈op.operands.toList):ia.bJ x=st.bJ x:=by (cases x with|tmp t=>exact h t (BL u rfl)|_=>rfl)
def BK {op:Op}{x:Operand}(h:x∈mM op):x∈op.operands.toList:=by unfold mM at h;grind [Op.operands,Call.operands]
def xF {ρ:Operand->Option SV}:∀{l:zA Operand} {xs:zA SV},cN ρ l=some xs->∀x∈l,∃v,ρ x=some v/\v∈xs
 | [],_,_,_,y=>nomatch y
 | o::r,xs,h,x,y=>by
  simp only [cN] at h;split at h
  ·rename_i v l z D;cases h;rcases ê.1 y with e|y
   ·exact ⟨v,by rw [e];exact z,ψ⟩
   ·have ⟨u,hu,hm⟩:=xF D x y;grind
  ·cases h
structure Ĳ (P:Program) (T:dT) (m:CM) (h:ù) (o:Oper) (st:St) (V:Ó) (R W:List Nat) (K:St->Ó->Prop) (p:Nat->Option SV) (q:Nat->Option aZ):Prop where
 pd:∀t,t∉fJ o->p t=none
 qd:∀s,s∉W->q s=none
 next:K (ov p q st) V
 again:∀(ia:St)(V2:Ó)(K2:St->Ó->Prop),V.Le V2->(∀t∈jV o.op,ia.ay t=st.ay t)->(∀s∈R,ia.boxes s=st.boxes s)->K2 (ov p q ia) V2->dL P T m h o ia V2 K2
variable {P:Program} {T:dT} {LF RF:List Nat} {m:CM}
def Gx {o:Oper}{t:Nat}(h:t∉fJ o):o.dst≠some t:=by intro e;apply h;simp [fJ,e]
def WS {o:Oper}{st:St}{V:ut}{K:St->ut->Prop}{R W:zA Nat}{E:Q}(hnew:∀sc b x,E=.new sc b x->fJ o=W/\fJ o=R)(hupd:∀sc s b,E=.zd sc s b->s∈W)(happ:eu E≠6)(D:zf E o.dst st V K):∃p q,(∀t,t∉fJ o->p t=none)/\(∀s,s∉W->q s=none)/\K (ov p q st) V/\∀(ia:St)(V2:ut)(K2:St->ut->Prop),V.Le V2->(∀s∈R,ia.boxes s=st.boxes s)->K2 (ov p q ia) V2->zf E o.dst ia V2 K2:=by (cases E with|fail=>exact D.elim|ret sc x=>{obtain ⟨h,k⟩:=(fA sc _).1 D;refine ⟨one o.dst x,λ_=>none,λt l=>eW (Gx l),λ_ _=>rfl,by rw [<-gE];exact k,?_⟩;intro ia V2 K2 _ _ m;exact (fA sc _).2 ⟨h,by rw [gE];exact m⟩}|new sc b x=>{have ⟨r,u⟩:=hnew _ _ _ rfl;simp only [zf] at D ⊢;(cases F:o.dst with|none=>{rw [F] at D;exact D.elim}|some d=>{have n:fJ o=[d]:=by{simp [fJ,F]};rw [F] at D;dsimp only at D ⊢;split at D;{rename_i v;obtain ⟨h,k⟩:=(fA sc _).1 D;refine ⟨one (some d) (x d),one (some d) b,λt l=>eW (by intro e;apply l;rw [n];simpa using e.symm),λs w=>eW (by intro e;apply w;rw [<-r,n];simpa using e.symm),by rw [<-EX];exact k,?_⟩;intro ia V2 K2 _ y m;rw [y d (by rw [<-u,n];simp),v];exact (fA sc _).2 ⟨h,by rw [EX];exact m⟩};{exact D.elim}})}|zd sc s b=>{simp only [zf] at D ⊢;(cases F:o.dst with|some d=>{rw [F] at D;exact D.elim}|none=>grind [fA,eW,QW])}|rd a sh=>{have ⟨x,h,k⟩:=sh.split D;have ⟨z,A⟩:=vG.1 h;refine ⟨one o.dst x,λ_=>none,λt l=>eW (Gx l),λ_ _=>rfl,by rw [<-gE];exact A,?_⟩;intro ia V2 K2 hle _ m;exact k _ (vG.2 ⟨ZJ hle z,by rw [gE];exact m⟩)}|tm vs of size sh=>{have ⟨x,h,k⟩:=sh.split D;refine ⟨one o.dst x,λ_=>none,λt l=>eW (Gx l),λ_ _=>rfl,by rw [<-gE];exact h.2,?_⟩;intro ia V2 K2 hle _ m;exact k _ ⟨h.1,by rw [gE];exact m⟩}|app a b c d e f g i j=>exact Å rfl happ|xB a b c d e f g i=>exact Å rfl happ)
def Cb {o:Oper}(h:qJ (bF LF RF o.op)=true)(st:St)(V:ut)(K:St->ut->Prop):dR P T m o st V K=zf (aT T st.bJ st.boxes o.op) o.dst st V K:=by unfold dR;split;{rename_i f args b a;rw [a] at h;exfalso;(cases f with|func f=>{simp only [bF] at h;split at h;{split at h<;>cases h};{split at h;{cases h};{split at h<;>cases h}}}|_=>{cases h})};{rename_i recv name args b a;rw [a] at h;cases h};{rfl}
def uk {ρ:Operand->Option SV}{bx:Nat->Option aZ}{op:Op}:eu (aT T ρ bx op)=2->bF LF RF op=.alloc:=by
 have u:∀{q:Q} {X:Prop},eu q<=1->eu q=2->X:=by intro q X h y;omega
 unfold aT;split
 case h_8=>
  split
  ·intro h;rcases FY (bx:=bx) with y|y|y|y<;>(rw [y] at h;cases h)
  ·exact u (á _)
 case h_9=>
  split
  ·intro h;rcases CE (bx:=bx) with y|y<;>(rw [y] at h;cases h)
  ·exact u (á _)
 case h_11=>
  split
  ·split;{split;{exact u vW};{exact u (á _)}};{exact u vW}
  ·exact u (á _)
 case h_17=>exact λ_=>rfl
 case h_18=>
  split
  ·split;{split;{exact u CD};{exact u (á _)}};{exact u (á _)}
  ·exact u (á _)
 case h_21=>
  split
  ·exact u qX
  ·exact u (á _)
 case h_23 c=>
  split
  ·intro h;exfalso;split at h<;>(try split at h)<;>(try split at h)<;>(try split at h)<;>first|(rcases qW (bx:=bx) with y|y<;>(rw [y] at h;cases h))|cases h
  ·split;{intro h;rcases CC (T:=T) (bx:=bx) with y|y<;>(rw [y] at h;cases h)};{exact u (á _)}
  ·split;{split;{exact u vX};{exact u (á _)}};{exact u (á _)}
  ·exact u (á _)
 all_goals
  first
  | exact λ_=>rfl
  | exact u (á _)
  | ((repeat' split)<;>first|exact u (á _)|exact u (Ù _)|exact u tA|(unfold B9;(repeat' split)<;>first|exact u (á _)|exact u (Ù _)))
def Fs {st ia:St}{op:Op}(h:∀t∈jV op,ia.ay t=st.ay t):cN ia.bJ (mM op)=cN st.bJ (mM op):=
 fO _ λ_ a=>rS h (BK a)
def rV {h:ù}{o:Oper}{st:St}{V:ut}{K:St->ut->Prop}{R W:zA Nat}(hq:qJ (bF LF RF o.op)=true)(hrw:vO (bF LF RF o.op) h (fJ o)=some (R,W))(hv:dL P T m h o st V K):∃p q,Ĳ P T m h o st V R W K p q:=by
 have core:(∀ia:St,(∀t∈jV o.op,ia.ay t=st.ay t)->(∀s∈R,ia.boxes s=st.boxes s)->aT T ia.bJ ia.boxes o.op=aT T st.bJ st.boxes o.op) ->
   (∀B b x,aT T st.bJ st.boxes o.op=.new B b x->fJ o=W/\fJ o=R)->(∀B s b,aT T st.bJ st.boxes o.op=.zd B s b->s∈W) ->
   (∀(ia:St)(V2:ut)(C:St->ut->Prop),(∀t∈jV o.op,ia.ay t=st.ay t)->dR P T m o ia V2 C->dL P T m h o ia V2 C) ->
   dR P T m o st V K->∃p q,Ĳ P T m h o st V R W K p q:=by
  intro he O hu A hv;rw [Cb hq] at hv
  obtain ⟨p,q,Q,S,U,X⟩:=WS (R:=R) (W:=W) O hu (λk=>by
   obtain ⟨Y,d,D⟩:=(h_ (T:=T) (ρ:=st.bJ) (bx:=st.boxes) (op:=o.op)).2.2 k;rw [d] at hq;obtain ⟨E,args,I⟩:=Y;dsimp only at D;subst D;cases hq) hv
  refine ⟨p,q,Q,S,U,λia V2 C hle F G Z=>?_⟩;refine A ia V2 C F ?_;rw [Cb hq,he ia F G];exact X ia V2 C hle G Z
 have J:bF LF RF o.op=.pure\/bF LF RF o.op=.alloc->h=.free->(bF LF RF o.op=.alloc->R=fJ o/\W=fJ o)->∃p q,Ĳ P T m h o st V R W K p q:=by intro g hf hd;subst hf;refine core (λia r _=>?_) (λB b x k=>?_) (λB s b k=>?_) (λ_ _ _ _ A=>A) hv;{rw [Tx (bx':=st.boxes) g];exact qI λx H=>rS r H};{have:=hd (uk (by rw [k];rfl));exact ⟨this.2.symm,this.1.symm⟩};{rcases (h_ (T:=T) (ρ:=st.bJ) (bx:=st.boxes) (op:=o.op)).1 (by rw [k];rfl) with ⟨t,y,x,d⟩|⟨⟨E,args,I⟩,d,D⟩;{rw [d] at g;rcases g with g|g<;>cases g};{dsimp only at D;subst D;rw [d] at g;rcases g with g|g<;>cases g}}
 generalize g:bF LF RF o.op=c at hrw hq J
 cases c with
 | pure=>
  cases h with
  | free=>exact J (.inl rfl) rfl Ū
  | own l=>cases hrw
 | alloc=>
  cases h with
  | free=>
   simp only [vO,ÿ,ŗ] at hrw;exact J (.inr rfl) rfl (λ_=>⟨hrw.1.symm,hrw.2.symm⟩)
  | own l=>cases hrw
 | load=>
  cases h with
  | free=>cases hrw
  | own l=>
   simp only [vO,ÿ,ŗ] at hrw;obtain ⟨rfl,rfl⟩:=hrw
   have d:∃t a,o.op=.load t a:=by
    generalize o.op=op at g
    cases op with
    | load t a=>exact ⟨t,a,rfl⟩
    | call c=>obtain ⟨E,args,I⟩:=c;cases E with
     | builtin b=>cases b<;>cases g
     | value f=>cases f with
      | func f=>simp only [bF] at g;split at g<;>(try split at g)<;>(try split at g)<;>(try split at g)<;>cases g
      | _=>cases g
     | _=>cases g
    | _=>cases g
   obtain ⟨t,a,d⟩:=d;unfold dL at hv;dsimp only at hv;split at hv
   ·rename_i xs n;split at hv;{rename_i j;have L:∀v,st.bJ a=some v->∀s∈v.ids,s∈l:=by{intro v xr s r;rw [Cv] at j;apply j;rw [d] at n;have ⟨u,hu,hm⟩:=xF n a (by simp [mM]);rw [d];simp only [gR];grind};refine core (λia r A=>?_) (λB b x k=>?_) (λB s b k=>?_) (λia V2 C r A=>?_) hv;{rw [d] at r ⊢;rw [qI (ρ':=st.bJ) λx H=>rS r H];simp only [aT];grind [Tz]};{have:=uk (LF:=LF) (RF:=RF) (op:=o.op) (T:=T) (ρ:=st.bJ) (bx:=st.boxes) (by rw [k];rfl);rw [d] at this;cases this};{rcases (h_ (T:=T) (ρ:=st.bJ) (bx:=st.boxes) (op:=o.op)).1 (by rw [k];rfl) with ⟨t,y,x,z⟩|⟨c,z,-⟩<;>(rw [d] at z;cases z)};{unfold dL;dsimp only;rw [Fs r,n];dsimp only;have:gR ia.boxes o.op (xs.flatMap SV.ids)=gR st.boxes o.op (xs.flatMap SV.ids):=by{rw [d];rfl};rw [this,j];exact A}};{exact hv.elim}
   ·exact hv.elim
 | store=>
  cases h with
  | free=>cases hrw
  | own l=>
   simp only [vO,ÿ,ŗ] at hrw;obtain ⟨rfl,rfl⟩:=hrw
   have d:∃t a x,o.op=.store t a x:=by
    generalize o.op=op at g
    cases op with
    | store t a x=>exact ⟨t,a,x,rfl⟩
    | call c=>obtain ⟨E,args,I⟩:=c;cases E with
     | builtin b=>cases b<;>cases g
     | value f=>cases f with
      | func f=>simp only [bF] at g;split at g<;>(try split at g)<;>(try split at g)<;>(try split at g)<;>cases g
      | _=>cases g
     | _=>cases g
    | _=>cases g
   obtain ⟨t,a,y,d⟩:=d;unfold dL at hv;dsimp only at hv;split at hv
   ·rename_i xs n;split at hv;{rename_i j;have L:∀v,st.bJ a=some v->∀s∈v.ids,s∈l:=by{intro v xr s r;rw [Cv] at j;apply j;rw [d] at n;have ⟨u,hu,hm⟩:=xF n a (by simp [mM]);rw [d];simp only [gR];grind};refine core (λia r A=>?_) (λB b x k=>?_) (λB s b k=>?_) (λia V2 C r A=>?_) hv;{rw [d] at r ⊢;rw [qI (ρ':=st.bJ) λx H=>rS r H];simp only [aT];split;{rename_i i v w hi M hw;exact (PW λs N=>A s (L v M s N)).symm};{rfl}};{have:=uk (LF:=LF) (RF:=RF) (op:=o.op) (T:=T) (ρ:=st.bJ) (bx:=st.boxes) (by rw [k];rfl);rw [d] at this;cases this};{rw [d] at k;simp only [aT] at k;split at k;{rename_i i v w hi M hw;exact L v M s (Mj k)};{cases k}};{unfold dL;dsimp only;rw [Fs r,n];dsimp only;have:gR ia.boxes o.op (xs.flatMap SV.ids)=gR st.boxes o.op (xs.flatMap SV.ids):=by{rw [d];rfl};rw [this,j];exact A}};{exact hv.elim}
   ·exact hv.elim
 | _=>cases hq
end
section
variable {P:Program} {T:dT} {LF RF:List Nat} {m:CM}
def Ũ (p:Nat->Option SV)(q:Nat->Option aZ)(W D:List Nat)(st:St)(V:Ó)(K:St->Ó->Prop):St->Ó->Prop:=
 λia V2=>V.Le V2/\(∀t,t∉D->ia.ay t=st.ay t)/\(∀s,s∉W->ia.boxes s=st.boxes s)/\K (ov p q ia) V2
def uH {bx bx':Nat->Option aZ}:∀{l:zA Nat},(∀s∈l,bx' s=bx s)->l.flatMap (nY bx')=l.flatMap (nY bx)
 | [],_=>rfl
 | s::r,h=>by
  simp only [ē];rw [uH λs u=>h s (by simp [u])];simp only [nY];rw [h s ψ]
def qK {bx bx':Nat->Option aZ}:∀(n:Nat)(l:zA Nat),(∀s∈ð bx n l,bx' s=bx s)->ð bx' n l=ð bx n l
 | 0,_,_=>rfl
 | n+1,l,h=>by
  have u:∀s∈l,bx' s=bx s:=λs a=>h s (fX (n+1) l s a);simp only [ð] at h ⊢;rw [uH u];exact qK n _ h
def DO {bx bx':Nat->Option aZ}{l:zA Nat}(h:∀s∈l,bx' s=bx s):jo bx' l=jo bx l:=by unfold jo;rw [ķ,ĥ,ĥ];constructor;{intro g s a;have:=g s a;simp only [nY] at this ⊢;rw [h s a] at this;exact this};{intro g s a;have:=g s a;simp only [nY] at this ⊢;rw [h s a];exact this}
def eY:∀{L:zA Nat} {β:Nat->Nat} {k k':(Nat->Nat)->Prop},(∀β,k β->k' β)->m_ L β k->m_ L β k'
 | [],_,_,_,h,g=>h _ g
 | _::_,_,_,_,h,g=>λb=>eY h (g b)
def BR {bx bx':Nat->Option aZ}{b:aZ}{β:Nat->Nat}{s:Nat}:∀{r:zA Nat} {k k':Prop},(∀t∈r,bx' t=bx t)->(k->k')->XP bx b β s r k->XP bx' b β s r k'
 | [],_,_,_,h,g=>h g
 | t::r,k,k',u,h,g=>by
  have y:=λt a=>u t (Ă _ a);simp only [XP] at g ⊢;rw [u t ψ]
  cases hbq:Nat.beq s t with
  | true=>rw [hbq] at g;exact BR y h g
  | false=>
   rw [hbq] at g;simp only [cond_false] at g ⊢;split at g
   ·exact λc=>BR y h (g c)
   ·exact g
def lA {bx bx':Nat->Option aZ}{β:Nat->Nat}{V:ut}:∀{L:zA Nat} {k k':Prop},(∀s∈L,bx' s=bx s)->((∀s∈L,∃b,bx s=some b/\(b.live->V.H (β s)))->k->k')->j9 bx β V L k->j9 bx' β V L k'
 | [],_,_,_,h,g=>h (λs z=>Å z ψ) g
 | s::r,k,k',u,h,g=>by
  have y:=λt a=>u t (Ă _ a);simp only [j9] at g ⊢;rw [u s ψ];split at g
  ·rename_i b c;refine λd e=>lA y (λi=>BR y (λf=>h (λt a=>?_) f)) (g d e)<;>grind [ko.1]
  ·exact g
def mr {y:Option (Nat×Nat)}:∀{cs D:zA C} {K u:zA C->Prop},(∀c,K c->u c)->oF y cs D K->oF y cs D u
 | [],_,_,_,h,g=>h _ g
 | _::_,[],_,_,_,g=>g.elim
 | c::r,z::zr,K,u,h,g=>by
  simp only [oF] at g ⊢;split at g
  ·split at g
   ·split at g
    ·obtain ⟨n,c,g⟩:=g;exact ⟨n,c,mr (λcs a=>h _ a) g⟩
    ·exact g.elim
   ·exact g.elim
  ·split at g
   ·have ⟨v,b,d⟩:=Dq.split _ g;rename_i e;rw [e] at *;exact d _ (mr (λcs a=>h _ a) b)
   ·exact mr (λcs a=>h _ a) g
variable {p:Nat->Option SV} {q:Nat->Option aZ}
def mu {z:Option (Nat×Nat)}{β:Nat->Nat}{V:ut}{W:zA Nat}:∀{L:zA Nat} {st:St} {k k':St->Prop},(∀s∈L,q s=none/\s∈W) ->(∀y,(∀t,y.ay t=st.ay t)->(∀s,s∉W->y.boxes s=st.boxes s)->k (ov p q y)->k' y)->fL T z β V L (ov p q st) k->fL T z β V L st k'
 | [],st,k,k',_,h,g=>h st (λ_=>rfl) (λ_ _=>rfl) g
 | s::r,st,k,k',D,h,g=>by
  have ⟨E,hsW⟩:=D s ψ;have f:∀s∈r,q s=none/\s∈W:=λs j=>D s (by simp [j])
  have a:∀b:aZ,∀d:St->Prop,(∀y,d y=k y)->fL T z β V r ((ov p q st).box s b) d->fL T z β V r (st.box s b) k':=by
   intro b d e g;rw [oO E] at g;refine mu f (λy l o c=>h y l (λu m=>?_) (by rw [<-e];exact c)) g<;>grind [aj]
  simp only [fL] at g ⊢;rw [cI E] at g;split at g
  ·rename_i cs ty v;split at g;{rename_i i w;exact mr (λn c=>⟨c.1,a _ _ (λ_=>rfl) c.2⟩) g};{exact g}
  ·grind
  ·grind
  ·exact g
def Ae (V:ut)(l:zA Nat):V.Le (V.ar l):=λ_ _ h=>h
def NK (V:ut):V.Le V.shut:=λ_ _ h=>h
def BC {V V' u:ut}{P:Prop}{b:Nat}(h:V.Le u)(y:V.Le V')(z:P->V'.w.heap.size<=b\/V'.H b):V.Le (u.shut.bz P b):=by intro x o c;have ⟨d,f⟩:=h x o c;have ⟨g,i⟩:=y x o c;refine ⟨λa=>?_,f⟩;rcases a with a|⟨j,e,-⟩;{exact d a};grind
def SX {m:Option Nat}{d:Nat}:gK m d=d\/gK m d=d+200000:=by (cases m with|none=>exact .inl rfl|some m=>{simp only [gK,th];grind})
def oL {give:md}{sh:Sh}{L:zA Nat}{M:Option Nat}{d:Nat}{ety:TypeId}{β:Nat->Nat}{st:St}{V V' N:ut}{K K':St->ut->Prop}{W D:zA Nat}{r':un}(O:∀s∈L,q s=none/\s∈W)(hm:∀k,M=some k->k∈L)(hp:p d=none/\d∈D)(hq:q (gK M d)=none/\gK M d∈W)(hV:V.Le V')(Z:V.Le N)(hlv:∀s∈L,∃b,st.boxes s=some b/\(b.live->V'.H (β s)))(hK:∀s2 V2,Ũ p q W D st V K s2 V2->K' s2 V2)(h:cF T give sh L M d ety β (ov p q st) V' K r' N):cF T give sh L M d ety β st V' K' r' N:=by unfold cF at h ⊢;obtain ⟨g,a,u,v,y⟩:=h;have i:a≠[]->V'.w.heap.size<=g\/Dm M st β g:=by{intro c;refine (v c).imp id λh=>?_;unfold Dm at h ⊢;grind [cI]};have z:a≠[]->V'.w.heap.size<=g\/V'.H g:=by{intro c;refine (i c).imp id λh=>?_;unfold Dm at h;(cases M with|none=>exact h.elim|some k=>{dsimp only at h;have ⟨A,n,B⟩:=hlv k (hm k rfl);rw [n] at h;obtain ⟨cs,ty⟩:=A;cases cs<;>grind [dG,dH,fW]})};refine ⟨g,a,u,i,Sh.s y λx r=>⟨r.1,?_⟩⟩;have C:(vo M ety (ov p q st)).box (gK M d) ⟨.aB a,ety⟩=ov p q ((vo M ety st).box (gK M d) ⟨.aB a,ety⟩):=by{(cases M with|none=>exact oO hq.1|some k=>{simp only [vo];grind [oO]})};have j:=r.2;rw [C] at j;have l:∀s∈Jn M L,q s=none/\s∈W:=by{intro s f;(cases M with|none=>exact O s f|some k=>exact O s (BM.1 f).1)};refine mu l (λo E F m=>?_) j;rw [lE (λk m=>by cases m;exact hp.1)] at m;refine hK _ _ ⟨BC Z hV z,?_,?_,m⟩;{intro t G;rw [eA,Ã (λe=>G (by rw [e];exact hp.2)),E];cases M<;>rfl};{intro s f;show o.boxes s=_;rw [F s f,aj,Ã (λe=>f (by rw [e];exact hq.2))];(cases M with|none=>rfl|some k=>{simp only [vo];rw [aj,Ã (λe=>f (by rw [e];exact (O k (hm k rfl)).2))]})}
theorem SN {bx:Nat->Option aZ}{L:zA Nat}(hcl:jo bx L=true):∀k,k∈vC bx L->k∈L:=by
 intro k a;unfold vC at a;have ⟨s,b,a⟩:=ĕ.1 (cA.1 a);split at a
 ·rename_i cs ty d;refine fI hcl b d k ?_
  have:∀cs:zA C,k∈t_ cs->k∈cs.flatMap C.ids:=by
   intro cs
   induction cs with
   | nil=>exact λh=>nomatch h
   | cons c r u=>
    intro h;rw [ē,ø]
    cases c<;>simp only [t_,ê] at h<;>first
     | exact .inr (u h)
     | (rcases h with h|h
        ·left;simp [C.ids,h]
        ·exact .inr (u h))
  exact this cs a
 ·cases a
theorem Bl {xs:zA SV}:∀k,k∈oH xs->k∈xs.flatMap SV.ids:=by
 intro k
 induction xs with
 | nil=>exact λh=>nomatch h
 | cons x r u=>
  intro h;rw [ē,ø];unfold oH at h;split at h
  ·rename_i heq;cases heq
  ·rename_i s n c a heq;cases heq;exact .inl h
  ·rename_i s n c a heq;cases heq;exact .inl h
  grind
def yA {bx bx':Nat->Option aZ}{L:zA Nat}(h:∀s∈L,bx' s=bx s):vC bx' L=vC bx L:=by
 unfold vC;congr 1
 induction L<;>grind
def iB {st:St}{u:Option Nat}{d:Nat}(h:q (gK u d)=none):lC (ov p q st) u d=lC st u d:=by unfold lC;rw [cI h]
def yx {bx bx':Nat->Option aZ}{β:Nat->Nat}{N:Nat}{L:zA Nat}(h:∀s∈L,bx' s=bx s):L.map (eH bx' β N)=L.map (eH bx β N):=
 ś λs a=>by unfold eH;rw [h s a]
def Dl:∀{L:zA Nat} {st:St},(∀s∈L,q s=none)->er (ov p q st) L 0=ov p q (er st L 0)
 | [],_,_=>rfl
 | s::r,st,h=>by
  show er ((ov p q st).box s ⟨.aB [],0⟩) r 0=ov p q (er (st.box s ⟨.aB [],0⟩) r 0);rw [oO (h s ψ)];exact Dl λs u=>h s (by simp [u])
def xH {bx bx':Nat->Option aZ}{β:Nat->Nat}{V:ut}:∀{L:zA Nat} {k k':Prop},(∀s∈L,bx' s=bx s)->(k->k')->uc bx β V L k->uc bx' β V L k'
 | [],_,_,_,h,g=>h g
 | s::r,k,k',u,h,g=>by
  simp only [uc] at g ⊢;rw [u s ψ];split at g
  ·exact λy=>xH (λt z=>u t (Ă _ z)) h (g y)
  ·exact g.elim
def kE {f:FuncId}{xs:zA SV}{ty:TypeId}{dst:Option Nat}{st:St}{V:ut}{K:St->ut->Prop}{W D:zA Nat}(hm:m=.none\/((m=.ar\/m=.give)/\(∀s∈ð (ov p q st).boxes 3 (ô (xs.flatMap SV.ids)),q s=none/\s∈W)/\∀k,dst=some k->∀mm,q (gK mm k)=none/\gK mm k∈W))(hd:∀k,dst=some k->p k=none/\k∈D){K':St->ut->Prop}(hK:∀s2 V2,Ũ p q W D st V K s2 V2->K' s2 V2)(hv:gS P T m f xs ty dst (ov p q st) V K):gS P T m f xs ty dst st V K':=by
 have A:∀(n:St)(x:SV),(∀t,n.ay t=st.ay t)->∀t,t∉D->(n.put dst x).ay t=st.ay t:=by intro n x h t c;(cases dst with|none=>exact h t|some d=>{rw [eA,Ã (λe=>c (by rw [e];exact (hd d rfl).2))];exact h t})
 have G:∀(n:St)(x:SV),(n.put dst x).boxes=n.boxes:=by intro n x;cases dst<;>rfl
 unfold gS at hv ⊢;split at hv
 ·exact hv.elim
 ·rename_i S a2
  have H:∀L,ð (ov p q st).boxes 3 (ô (xs.flatMap SV.ids))=L->(∀s∈L,q s=none)->ð st.boxes 3 (ô (xs.flatMap SV.ids))=L:=by intro L hL X;rw [<-hL];exact qK 3 _ λs y=>(cI (X s (by rw [<-hL];exact y))).symm
  have Xs:∀s∈xs.flatMap SV.ids,s∈ð (ov p q st).boxes 3 (ô (xs.flatMap SV.ids)):=λs y=>fX 3 _ s (cA.2 y);generalize hr:ð (ov p q st).boxes 3 (ô (xs.flatMap SV.ids))=L at hv hm Xs
  cases L with
  | nil=>
   rw [H _ hr (λs y=>nomatch y)]
   have plain:(∀g:ut,V.Le g->aa P f (aI (λ_=>0) xs) g λr B=>S.ex λx=>r=x.den (λ_=>0)/\K ((ov p q st).put dst x) B) ->
     ∀g:ut,V.Le g->aa P f (aI (λ_=>0) xs) g λr B=>S.ex λx=>r=x.den (λ_=>0)/\K' (st.put dst x) B:=by
    intro hv g b;refine (hv g b).s λr B hle l=>Sh.s l λx C=>⟨C.1,?_⟩;have z:=C.2;rw [lE (λk l=>(hd k l).1)] at z;exact hK _ _ ⟨b.m hle,A st x λ_=>rfl,λs _=>by rw [G],z⟩
   rcases hm with rfl|⟨rfl|rfl,-,i⟩
   ·exact plain hv
   ·exact plain hv
   ·dsimp only at hv ⊢;split at hv;{rename_i d o a3;rw [iB (i d rfl Option.none).1] at hv;split at hv;{exact hv.elim};{rename_i u;intro g b;refine (hv g b).s λr B hle l=>?_;exact oL (W:=W) (D:=D) (λs y=>Å y ψ) (λk l=>by cases l) (hd d rfl) (i d rfl Option.none) b (b.m hle) (λs y=>Å y ψ) hK l}};{exact plain hv};{exact hv.elim}
  | cons s r=>
   dsimp only at hv;split at hv
   ·exact hv.elim
   ·rename_i J
    have ar:m=.ar\/m=.give->(∀t∈s::r,q t=none/\t∈W)->(∀k,dst=some k->∀mm,q (gK mm k)=none/\gK mm k∈W) ->
      ∀{give:md} {mm:Option Nat} {d:Nat} {o:TypeId},dst=some d->(∀k,mm=some k->k∈s::r) ->
      (∀g:ut,V.Le g->m_ (s::r) (λ_=>0) λβ=>j9 (ov p q st).boxes β g (s::r) (aa P f (aI β xs) (g.ar ((s::r).map (eH (ov p q st).boxes β g.w.heap.size))) (cF T give S (s::r) mm d o β (ov p q st) g K))) ->
      ∀g:ut,V.Le g->m_ (s::r) (λ_=>0) λβ=>j9 st.boxes β g (s::r) (aa P f (aI β xs) (g.ar ((s::r).map (eH st.boxes β g.w.heap.size))) (cF T give S (s::r) mm d o β st g K')):=by
     intro _ a i give mm d o E M hv g b;have F:∀t∈s::r,st.boxes t=(ov p q st).boxes t:=λt c=>(cI (a t c).1).symm;refine eY (λβ I=>?_) (hv g b);rw [yx (bx:=(ov p q st).boxes) F];refine lA (bx:=(ov p q st).boxes) F (λhH v=>?_) I;refine v.s λY B hle l=>?_;exact oL a M (hd d E) (i d E mm) b ((b.m (Ae g _)).m hle) (λt c=>by rw [F t c];exact hH t c) hK l
    have base:m=.ar\/m=.give->(∀t∈s::r,q t=none/\t∈W)/\(∀k,dst=some k->∀mm,q (gK mm k)=none/\gK mm k∈W):=by intro h;rcases hm with rfl|⟨-,N,z⟩;{rcases h with h|h<;>cases h};{exact ⟨N,z⟩}
    have O:(∀t∈s::r,q t=none/\t∈W)->jo st.boxes (s::r)=true:=λa=>by rw [DO (bx:=(ov p q st).boxes) (λt c=>(cI (a t c).1).symm)];exact J
    split at hv
    ·exact hv.elim
    ·exact hv.elim
    ·have ⟨a,i⟩:=base (.inr rfl);rw [H _ hr (λt c=>(a t c).1)];dsimp only;rw [O a];dsimp only;have Z:=yA (bx:=(ov p q st).boxes) (bx':=st.boxes) (L:=s::r) (λt c=>(cI (a t c).1).symm);rw [Z];split at hv;{rename_i d o N z h3;rw [iB (i d rfl _).1] at hv;split at hv;{exact hv.elim};{rename_i u;exact ar (.inr rfl) a i rfl (λk l=>by cases l) hv}};{rename_i d o k N z h3;have Q:=Xs k (Bl k (by rw [z];simp));have a0:Hj (ov p q st).boxes k o=Hj st.boxes k o:=by{unfold Hj;rw [cI (a k Q).1]};rw [a0] at hv;split at hv;{rw [iB (i d rfl _).1] at hv;split at hv;{exact hv.elim};{rename_i u;exact ar (.inr rfl) a i rfl (λj hj=>by cases hj;exact Q) hv}};{rw [Dl (λt c=>(a t c).1),iB (i d rfl _).1] at hv;split at hv;{exact hv.elim};{rename_i u;split at hv;{exact hv.elim};{intro g b;refine eY (λβ I=>?_) (hv g b);refine xH (bx:=(ov p q st).boxes) (λt c=>(cI (a t c).1).symm) (λv=>?_) I;refine v.s λY B hle l=>?_;exact oL (W:=W) (D:=D) (st:=er st (s::r) 0) (λs y=>Å y ψ) (λk l=>by cases l) (hd d rfl) (i d rfl Option.none) b (b.m hle) (λs y=>Å y ψ) (λs2 V2 U=>hK s2 V2 ⟨U.1,λt c=>(U.2.1 t c).m (by rw [jL]),λt c=>(U.2.2.1 t c).m (by rw [bu,Ã λh=>c (a t h).2]),U.2.2.2⟩) l}}}};{split at hv;{exact hv.elim};{rw [Dl (λt c=>(a t c).1)] at hv;intro g b;refine eY (λβ I=>?_) (hv g b);refine xH (bx:=(ov p q st).boxes) (λt c=>(cI (a t c).1).symm) (λv=>?_) I;refine v.s λY B hle l=>Sh.s l λx C=>⟨C.1,?_⟩;have z:=C.2;rw [lE (λk l=>(hd k l).1)] at z;exact hK _ _ ⟨b.m hle,A (er st (s::r) 0) x λt=>by rw [jL],λt c=>by rw [G,bu,Ã λh=>c (a t h).2],z⟩}};{exact hv.elim}
    ·have ⟨a,i⟩:=base (.inl rfl);rw [H _ hr (λt c=>(a t c).1)];dsimp only;rw [O a];dsimp only;have F:∀t∈s::r,st.boxes t=(ov p q st).boxes t:=λt c=>(cI (a t c).1).symm;rw [(yA (bx:=(ov p q st).boxes) (bx':=st.boxes) (L:=s::r) F)];split at hv;{intro g b;refine eY (λβ I=>?_) (hv g b);rw [yx (bx:=(ov p q st).boxes) F];refine lA (bx:=(ov p q st).boxes) F (λ_ v=>?_) I;refine v.s λY B hle l=>Sh.s l λx C=>⟨C.1,?_⟩;refine mu a (λn N z l=>?_) C.2;rw [lE (λk l=>(hd k l).1)] at l;exact hK _ _ ⟨((b.m (Ae g _)).m hle).m (NK _),A n x N,λt c=>by rw [G];exact z t c,l⟩};{rename_i k l;have R:=SN J k (by rw [l];simp);have a1:nh st.boxes k=nh (ov p q st).boxes k:=by{unfold nh;rw [F k R]};rw [a1];split at hv;{rename_i d o a4;rw [iB (i d rfl _).1] at hv;split at hv;{exact hv.elim};{rename_i u;exact ar (.inl rfl) a i rfl (λj hj=>by cases hj;exact R) hv}};{exact hv.elim}};{exact hv.elim}
    grind
def JU {bx:Nat->Option aZ}:∀(n:Nat) {l l':zA Nat},(∀x∈l,x∈l')->∀x∈ð bx n l,x∈ð bx n l'
 | 0,_,_,h,x,u=>h x u
 | n+1,l,l',h,x,u=>by
  simp only [ð] at u ⊢;refine JU n (λy z=>?_) x u<;>grind [cA]
def q_ {f:FuncId}{xs:zA SV}{ty:TypeId}{dst:Option Nat}{st:St}{V:ut}{K:St->ut->Prop}{W D:zA Nat}(hm:m=.none\/((m=.ar\/m=.give)/\(∀s∈ð (ov p q st).boxes 3 (ô (xs.flatMap SV.ids)),q s=none/\s∈W)/\∀k,dst=some k->∀y,q (gK y k)=none/\gK y k∈W))(z:∀k,dst=some k->p k=none/\k∈D){F:St->ut->Prop}(E:∀s2 V2,Ũ p q W D st V K s2 V2->F s2 V2)(u:lN P T m f xs ty dst (ov p q st) V K):lN P T m f xs ty dst st V F:=by have a:=hm;(cases m with|ar=>{obtain ⟨d,g⟩:(∀s∈ð (ov p q st).boxes 3 (ô (xs.flatMap SV.ids)),q s=none/\s∈W)/\∀k,dst=some k->∀y,q (gK y k)=none/\gK y k∈W:=χ;unfold lN at u ⊢;dsimp only at u ⊢;rw [vV (bx:=st.boxes) (bx':=(ov p q st).boxes) (λs b=>cI (d s (fX 3 _ s (cA.2 b))).1)] at u;split at u;{rename_i j c h e;exact ⟨λhe=>⟨(u.1 he).1,kE (.inr ⟨.inl rfl,λs b=>d s (JU 3 (λx i=>cA.2 (Cu e x (cA.1 i))) s b),g⟩) z E (u.1 he).2⟩,λhe=>kE a z E (u.2 he)⟩};{exact kE a z E u}}|_=>exact kE a z E u)
theorem G3 {u:Nat->Option SV}{y:Nat->Option aZ}{st:St}(z:∀t,p t=none\/u t=none)(D:∀t,q t=none\/y t=none):ov p q (ov u y st)=ov u y (ov p q st):=by unfold ov;grind
def F7:Q->Option Nat
 | .app old _ _ _ _ _ _ _ _=>old
 | .xB s _ _ _ _ _ _ _=>some s
 | _=>none
def N8 (T:dT)(bx:Nat->Option aZ)(l:Option (List SV))(ts:List TypeId):Q:=
 match l,ts with
 | some [b,x],[t,t']=>match aH T t,aH T t' with
  | some i,some u=>match i.k,u.k with
   | .slice e,.slice _=>match aH T e with
    | some y=>cW bx e y b x
    | none=>.fail
   | _,_=>.fail
  | _,_=>.fail
 | _,_=>.fail
def F8 (bx:Nat->Option aZ)(sz:Nat)(x:SV):Option (OA×Nat ⊕ List Value):=
 match x with
 | .c (.v (.slice a k _))=>some (.inl (a,k))
 | .c (.mQ s o k _)=>match bx s with
  | some ⟨.row ws,_⟩=>some (.inr (aw ws o (k*sz)))
  | _=>match fR bx s with
   | some ws=>if Nat.ble (o+k*sz) ws.length then some (.inr ((ws.drop o).take (k*sz))) else none
   | none=>none
 | .c (.dI s k c)=>match bx s with
  | some ⟨.aB ws,_⟩=>some (.inr (qP ws k c sz))
  | _=>none
 | _=>none
def Ng (bx:Nat->Option aZ)(e:TypeId)(u:TI)(b:SV)(src:OA×Nat ⊕ List Value):Q:=
 match b with
 | .c (.v (.slice a n c))=>.app none a [] n c src u.size u.bytes e
 | .c (.mQ s 0 n c)=>match fR bx s,nh bx s with
  | some vs,some ty=>if Nat.beq ty e then .app (some s) none vs n c src u.size u.bytes e else .fail
  | _,_=>.fail
 | .c (.dI s n c)=>match bx s with
  | some ⟨.aB vs,ty⟩=>if Nat.beq ty e then .xB s vs n c src u.size u.bytes e else .fail
  | _=>.fail
 | _=>.fail
def B8 {bx:Nat->Option aZ}{e:TypeId}{u:TI}{b x:SV}:cW bx e u b x=match mD u.zero with
  | none=>.fail
  | some y=>if Nat.beq u.bytes 0||Nat.beq u.size 0||!(Nat.beq u.size y.length) then .fail else match F8 bx u.size x with
   | none=>.fail
   | some src=>Ng bx e u b src:=rfl
def OL {bx bx':Nat->Option aZ}{sz:Nat}{x:SV}:(∀s∈x.ids,bx' s=bx s)->F8 bx sz x=F8 bx' sz x:=by unfold F8;split;{exact λ_=>rfl};{intro h;unfold fR;rw [h _ (by simp [SV.ids,C.ids])]};{intro h;rw [h _ (by simp [SV.ids,C.ids])]};{exact λ_=>rfl}
theorem QI {bx bx':Nat->Option aZ}{e:TypeId}{u:TI}{b:SV}{src:OA×Nat ⊕ zA un}:(∀s∈b.ids,bx' s=bx s)->Ng bx e u b src=Ng bx' e u b src:=by unfold Ng;split;{exact λ_=>rfl};{intro h;unfold fR nh;rw [h _ (by simp [SV.ids,C.ids])]};{intro h;rw [h _ (by simp [SV.ids,C.ids])]};{exact λ_=>rfl}
def Md {bx bx':Nat->Option aZ}{e:TypeId}{u:TI}{b x:SV}(h:∀s∈b.ids++x.ids,bx' s=bx s):cW bx e u b x=cW bx' e u b x:=by rw [B8,B8,OL λs a=>h s (Œ _ a)];grind [QI]
def JN {bx:Nat->Option aZ}{e:TypeId}{u:TI}{b x:SV}:∀s,F7 (cW bx e u b x)=some s->s∈b.ids:=by intro s h;unfold cW at h;split at h;{cases h};{split at h;{cases h};{dsimp only at h;split at h;{cases h};{split at h;{cases h};{split at h;{split at h;{cases h;simp [SV.ids,C.ids]};{cases h}};{cases h}};{split at h;{split at h;{cases h;simp [SV.ids,C.ids]};{cases h}};{cases h}};{cases h}}}}
def Wn {bx bx':Nat->Option aZ}{ys:zA SV}{ts:zA TypeId}{R:zA Nat}(h:∀s∈ys.flatMap SV.ids,bx' s=bx s)(u:∀s∈ys.flatMap SV.ids,s∈R):N8 T bx (some ys) ts=N8 T bx' (some ys) ts/\∀s,F7 (N8 T bx (some ys) ts)=some s->s∈R:=by unfold N8;split;{rename_i b x t d c;cases c;split;{split;{split;{exact ⟨Md λs a=>h s (by simpa using a),λs a=>u s (by simp [JN s a])⟩};{exact ⟨rfl,λs a=>nomatch a⟩}};{exact ⟨rfl,λs a=>nomatch a⟩}};{exact ⟨rfl,λs a=>nomatch a⟩}};{exact ⟨rfl,λs a=>nomatch a⟩}
theorem PR {bx:Nat->Option aZ}{e:TypeId}{u:TI}{b x:SV}:eu (cW bx e u b x)=6\/cW bx e u b x=.fail:=by unfold cW;split;{exact .inr rfl};{split;{exact .inr rfl};{dsimp only;split;{exact .inr rfl};{(split<;>(try split)<;>(try split)<;>first|exact .inl rfl|exact .inr rfl)}}}
def Tw {ρ:Operand->Option SV}{bx:Nat->Option aZ}{args:Array Operand}{ts:Array TypeId}:eu (aT T ρ bx (.call ⟨.builtin .append,args,ts⟩))=6\/aT T ρ bx (.call ⟨.builtin .append,args,ts⟩)=.fail:=by simp only [aT];split<;>grind [PR]
def HB {N:Q}{dst:Option Nat}{st:St}{V:ut}{K O:St->ut->Prop}{W D:zA Nat}(M:eu N=6\/N=.fail)(ho:∀s,F7 N=some s->q s=none/\s∈W)(hd:∀k,dst=some k->(p k=none/\k∈D)/\∀s,q (th s k)=none/\th s k∈W)(hd0:∀k,dst=some k->q k=none/\k∈W)(Z:∀s2 V2,Ũ p q W D st V K s2 V2->O s2 V2)(h:zf N dst (ov p q st) V K):zf N dst st V O:=by (cases N with|xB s vs n c x size bytes ty=>{simp only [zf] at h ⊢;(cases dst with|none=>exact h.elim|some d=>{dsimp only at h ⊢;have ⟨⟨u,v⟩,r⟩:=hd d rfl;have ⟨B,w⟩:=ho s rfl;have core:∀k xs,yz s vs n c size bytes ty d (ov p q st) V K k xs->yz s vs n c size bytes ty d st V O k xs:=by{rintro k xs ⟨a,f,g,l,j,i⟩;refine ⟨a,f,g,l,j,?_⟩;rw [cI (r s).1] at i;split at i;{exact i.elim};{intro spare y z A;have:=i spare y z A;rw [oO B,oO (r s).1,lE (λk m=>by cases m;exact u)] at this;refine Z _ _ ⟨Ó.Le.refl V,?_,?_,this⟩;{intro t M;rw [eA,Ã (λe=>M (by rw [e];exact v))];rfl};{intro t M;show ((st.box s _).box _ _).boxes t=_;grind [aj]}}};grind})}|app old ba vs n c x size bytes ty=>{simp only [zf] at h ⊢;(cases dst with|none=>exact h.elim|some d=>{dsimp only at h ⊢;have ⟨⟨u,v⟩,r⟩:=hd d rfl;(cases old with|some s=>{dsimp only at h ⊢;have ⟨B,w⟩:=ho s rfl;have core:∀k xs,Ik s vs n c size bytes ty d (ov p q st) V K k xs->Ik s vs n c size bytes ty d st V O k xs:=by{rintro k xs ⟨a,f,g,l,j,i⟩;refine ⟨a,f,g,l,j,?_⟩;rw [cI (r s).1] at i;split at i;{exact i.elim};{intro b J spare y z A;have:=i b J spare y z A;rw [oO B,oO (r s).1,lE (λk m=>by cases m;exact u)] at this;refine Z _ _ ⟨Ó.Le.refl V,?_,?_,this⟩;{intro t M;rw [eA,Ã (λe=>M (by rw [e];exact v))];rfl};{intro t M;show ((st.box s _).box _ _).boxes t=_;rw [aj,Ã (λe=>M (by rw [e];exact (r s).2)),aj,Ã (λe=>M (by rw [e];exact w))]}}};(cases x with|inr xs=>exact core _ _ h|inl ak=>{obtain ⟨xs,a,f,g⟩:=h;exact ⟨xs,a,f,core _ _ g⟩})}|none=>{dsimp only at h ⊢;obtain ⟨C,I⟩:=hd0 d rfl;obtain ⟨o,z,A,E,F,h⟩:=h;have core:∀k xs,Il o n c size bytes ty d (ov p q st) V K k xs->Il o n c size bytes ty d st V O k xs:=by{rintro k xs ⟨a,f,g,l,j⟩;refine ⟨a,f,g,l,?_⟩;rw [cI C] at j;split at j;{exact j.elim};{intro spare y G H;have:=j spare y G H;rw [oO C,lE (λk m=>by cases m;exact u)] at this;refine Z _ _ ⟨Ó.Le.refl V,?_,?_,this⟩;{intro t M;rw [eA,Ã (λe=>M (by rw [e];exact v))];rfl};{intro t M;show (st.box d _).boxes t=_;grind [aj]}}};refine ⟨o,z,A,E,F,?_⟩;(cases x with|inr xs=>exact core _ _ h|inl ak=>{obtain ⟨xs,a,f,g,l⟩:=h;refine ⟨xs,a,f,λe=>?_,λe=>core _ _ (l e)⟩;have:=g e;rw [lE (λk m=>by cases m;exact u)] at this;refine Z _ _ ⟨Ó.Le.refl V,?_,λt M=>rfl,this⟩;intro t M;rw [eA,Ã (λe=>M (by rw [e];exact v))]})})})}|fail=>exact h.elim|_=>{rcases M with M|M<;>cases M})
def wP {h:ù}{o:Oper}{st:St}{V:ut}{K:St->ut->Prop}{R W:zA Nat}(hm:qJ (bF LF RF o.op)=true\/(bF LF RF o.op=.call/\m=.none)\/((bF LF RF o.op=.nI/\m=.ar)\/(bF LF RF o.op=.give/\m=.give)\/bF LF RF o.op=.app))(hrw:vO (bF LF RF o.op) h (fJ o)=some (R,W))(hp:∀t,t∈jV o.op\/t∈fJ o->p t=none)(hq:∀s∈R,q s=none)(hqW:∀s∈W,q s=none){K':St->ut->Prop}(hK:∀s2 V2,Ũ p q W (fJ o) st V K s2 V2->K' s2 V2)(hv:dL P T m h o (ov p q st) V K):dL P T m h o st V K':=by
 have LP:∀t∈jV o.op,st.ay t=(ov p q st).ay t:=λt ht=>by simp [ov,hp t (.inl ht)]
 rcases hm with hm|hm
 ·have ⟨p2,q2,X⟩:=rV hm hrw hv;refine X.again st V _ (Ó.Le.refl V) LP (λs u=>(cI (hq s u)).symm) ?_;refine hK _ _ ⟨Ó.Le.refl V,λt ht=>by simp [ov,X.pd t ht],λs u=>by simp [ov,X.qd s u],?_⟩;rw [G3];{exact X.next};{intro t;by_cases h:t∈fJ o;{exact .inl (hp t (.inr h))};{exact .inr (X.pd t h)}};{intro s;by_cases h:s∈W;{exact .inl (hqW s h)};{exact .inr (X.qd s h)}}
 ·
  have j:∀(x:Operand),x∈o.op.operands.toList->(ov p q st).bJ x=st.bJ x:=λx J=>Wh λt e=>hp t (.inl (BL J e))
  have n:∀k,o.dst=some k->p k=none/\k∈fJ o:=λk E=>by have:k∈fJ o:=by{simp [fJ,E]};exact ⟨hp k (.inr this),this⟩
  have body:(¬bF LF RF o.op=.app)->∀(hh:∀xs f ss Xj args z,o.op=.call ⟨.value Xj,args,z⟩->cN (ov p q st).bJ args.toList=some xs->(ov p q st).bJ Xj=some (.c (.tQ f ss)) ->
    m=.none\/((m=.ar\/m=.give)/\(∀s∈ð (ov p q st).boxes 3 (ô ((xs++A7 ss).flatMap SV.ids)),q s=none/\s∈W)/\∀k,o.dst=some k->∀F,q (gK F k)=none/\gK F k∈W)),
    dR P T m o (ov p q st) V K->dR P T m o st V K':=by
   intro a hh hv;unfold dR at hv ⊢;split at hv
   ·rename_i Xj args z g;have e1:cN (ov p q st).bJ args.toList=cN st.bJ args.toList:=fO _ λx J=>j x (by rw [g];simp [Op.operands,Call.operands];exact .inr (by simpa using J));have e2:=j Xj (by rw [g];simp [Op.operands,Call.operands]);split at hv;{rename_i xs i;split at hv;{rename_i f ss B;have L:=hh _ _ _ _ _ _ g i B;rw [e1] at i;rw [e2] at B;simp only [i,B];exact q_ L n hK hv};{rename_i f vs B;rw [e1] at i;rw [e2] at B;simp only [i,B];exact q_ (.inl rfl) n hK hv};{exact hv.elim}};{exact hv.elim}
   ·rename_i recv name args z g;have a3:m=.none:=by{rw [g] at hm;rcases hm with ⟨-,h⟩|⟨h,-⟩|⟨h,-⟩|h;{exact h};{cases h};{cases h};{cases h}};have e1:cN (ov p q st).bJ args.toList=cN st.bJ args.toList:=fO _ λx J=>j x (by rw [g];simp [Op.operands,Call.operands];exact .inr (by simpa using J));split at hv;{rename_i xs i;split at hv;{rename_i t v B;split at hv;{rename_i f Sf;rw [e1] at i;rw [(j recv (by rw [g];simp [Op.operands,Call.operands]))] at B;simp only [i,B,Sf];exact q_ (.inl a3) n hK hv};{exact hv.elim}};{exact hv.elim}};{exact hv.elim}
   ·rename_i a0 G;exfalso;have M:bF LF RF o.op=.call\/bF LF RF o.op=.nI\/bF LF RF o.op=.give:=by{rcases hm with ⟨h,-⟩|⟨h,-⟩|⟨h,-⟩|h;{exact .inl h};{exact .inr (.inl h)};{exact .inr (.inr h)};{exact Å h a}};clear hm a hh;generalize g:o.op=op at M a0 G;(cases op with|call c=>{obtain ⟨Nq,args,z⟩:=c;(cases Nq with|builtin b=>{cases b<;>rcases M with h|h|h<;>cases h}|value f=>exact a0 f args z rfl|invoke r nm=>exact G r nm args z rfl)}|_=>{rcases M with h|h|h<;>cases h})
  have N:∀l:zA Nat,W=l++fJ o++(fJ o).map (·+ 200000)->∀k,o.dst=some k->∀F,q (gK F k)=none/\gK F k∈W:=by intro l Y k E F;have:gK F k∈W:=by{rw [Y];rcases SX (m:=F) (d:=k) with h|h<;>rw [h]<;>simp [((n k E).2)]};exact ⟨hqW _ this,this⟩
  have own:∀l:zA Nat,h=.own l->R=l->W=l++fJ o++(fJ o).map (·+ 200000)->(bF LF RF o.op=.nI\/bF LF RF o.op=.give\/bF LF RF o.op=.app)->(¬bF LF RF o.op=.app->m=.ar\/m=.give)->dL P T m h o st V K':=by
   intro l hh hR Y a5 L;subst hh hR;unfold dL at hv ⊢;dsimp only at hv ⊢;split at hv
   ·rename_i ys w;split at hv
    ·rename_i H;have e0:=fO _ λx J=>j x (BK J);rw [<-e0,w];dsimp only;have D:=Cv.1 H
     have e3:gR st.boxes o.op (ys.flatMap SV.ids)=gR (ov p q st).boxes o.op (ys.flatMap SV.ids):=by revert D;unfold gR;split;{intro D;exact qK 3 _ λs u=>(cI (hq s (D s u))).symm};{exact λ_=>rfl}
     rw [e3,H];dsimp only;have a4:∀s∈R,s∈W:=λs u=>by rw [Y];simp [u]
     by_cases a:bF LF RF o.op=.app
     ·
      have g:∃args z,o.op=.call ⟨.builtin .append,args,z⟩:=by
       generalize o.op=op at a
       cases op with
       | call c=>
        obtain ⟨Nq,args,z⟩:=c
        cases Nq with
        | builtin b=>cases b<;>first|exact ⟨args,z,rfl⟩|cases a
        | value f=>cases f with
         | func f=>simp only [bF] at a;split at a<;>(try split at a)<;>(try split at a)<;>(try split at a)<;>cases a
         | _=>cases a
        | _=>cases a
       | _=>cases a
      obtain ⟨args,z,g⟩:=g
      have e4:aT T st.bJ st.boxes o.op=aT T (ov p q st).bJ (ov p q st).boxes o.op/\∀s,F7 (aT T st.bJ st.boxes o.op)=some s->s∈R:=by have e5:cN (ov p q st).bJ args.toList=cN st.bJ args.toList:=by{rw [g] at e0;exact e0};have a1:cN st.bJ args.toList=some ys:=by{rw [g] at w;rw [<-e5];exact w};have I:∀s∈ys.flatMap SV.ids,s∈R:=by{intro s u;refine D s ?_;rw [g];simp only [gR];exact fX 3 _ s (cA.2 u)};rw [g];simp only [aT];rw [e5,a1];exact Wn (λs u=>by rw [cI (hq s (I s u))]) I
      have O:zf (aT T (ov p q st).bJ (ov p q st).boxes o.op) o.dst (ov p q st) V K:=by unfold dR at hv;rw [g] at hv ⊢;exact hv
      have Q:zf (aT T st.bJ st.boxes o.op) o.dst st V K'->dR P T m o st V K':=by intro h;unfold dR;rw [g] at h ⊢;exact h
      rw [<-e4.1] at O;refine Q ?_
      have a2:∀Z,aT T st.bJ st.boxes o.op=Z->eu Z=6\/Z=.fail:=by intro Z hQ;rw [<-hQ,g];exact Tw
      generalize hQ0:aT T st.bJ st.boxes o.op=Z at O e4
      exact HB (a2 Z hQ0) (λs u=>⟨hq s (e4.2 s u),a4 s (e4.2 s u)⟩) (λk E=>⟨n k E,λs=>by
       have:=N R Y k E (some s);exact this⟩) (λk E=>N R Y k E Option.none) hK O
     ·have S:=L a;refine body a (λxs f ss Xj args z g i B=>.inr ⟨S,λs u=>?_,N R Y⟩) hv
      have:s∈R:=by
       apply D;rw [g] at w ⊢;simp only [gR]
       have hy:ys.flatMap SV.ids=(xs++A7 ss).flatMap SV.ids:=by
        have:∀(l:zA Operand)(xs:zA SV)(x:Operand)(v:SV),cN (ov p q st).bJ l=some xs->(ov p q st).bJ x=some v->cN (ov p q st).bJ (l++[x])=some (xs++[v]):=by
         intro l
         induction l with
         | nil=>intro xs x v U h2;simp only [cN,ÿ] at U;subst U;simp [cN,h2]
         | cons o r ih=>
          intro xs x v U h2;simp only [cN] at U;split at U
          ·rename_i y l' h3 h4;cases U;simp only [Qc2,cN,h3,ih _ x v h4 h2]
          ·cases U
        simp only [mM] at w;rw [this _ _ _ _ i B] at w;cases w;simp only [ŧ];congr 1;simp [A7,SV.ids,C.ids,List.flatMap_map]
       grind
      grind
    ·exact hv.elim
   ·exact hv.elim
  rcases hm with ⟨A,hm⟩|⟨A,hm⟩|⟨A,hm⟩|A
  ·rw [A] at hrw;(cases h with|own l=>{cases hrw}|free=>{exact body (by rw [A];exact λh=>by cases h) (λ_ _ _ _ _ _ _ _ _=>.inl hm) hv})
  ·rw [A] at hrw;(cases h with|free=>{cases hrw}|own l=>{simp only [vO,ÿ,ŗ] at hrw;exact own l rfl hrw.1.symm hrw.2.symm (.inl A) (λ_=>.inl hm)})
  ·rw [A] at hrw;(cases h with|free=>{cases hrw}|own l=>{simp only [vO,ÿ,ŗ] at hrw;exact own l rfl hrw.1.symm hrw.2.symm (.inr (.inl A)) (λ_=>.inr hm)})
  ·rw [A] at hrw;(cases h with|free=>{cases hrw}|own l=>{simp only [vO,ÿ,ŗ] at hrw;exact own l rfl hrw.1.symm hrw.2.symm (.inr (.inr A)) (λh=>Å A h)})
end
section
variable {P:Program} {T:dT} {LF RF:List Nat}
def Dt (ops:Array Oper)(o:Oper)(st:St)(k:St->Bool->Prop):Prop:=
 match o.guard with
 | none=>k st true
 | some (j,b)=>match (ops[j]?).bind (·.dst) with
  | none=>False
  | some g=>match st.ay g with
   | some (.c .tt)=>k st b
   | some (.c .ff)=>k st (!b)
   | some (.c (.v (.bool c)))=>(c=true->k (st.put (some g) (.c .tt)) b)/\(c=false->k (st.put (some g) (.c .ff)) (!b))
   | some (.wG _)=>k st false
   | _=>False
def o_ (P:Program)(T:dT)(m:CM)(h:ù)(o:Oper)(V:Ó)(K:St->Ó->Prop)(st:St)(w:Bool):Prop:=
 match w with
 | true=>dL P T m h o st V K
 | false=>K (st.put o.dst lM) V
def HA {m:CM}{h:ù}{ops:Array Oper}{o:Oper}{st:St}{V:ut}{K:St->ut->Prop}:we P T m h ops o st V K↔Dt ops o st (o_ P T m h o V K):=by unfold we Dt;(cases y:o.guard with|none=>rfl|some u=>{obtain ⟨j,b⟩:=u;dsimp only;(cases z:(ops[j]?).bind (·.dst) with|none=>rfl|some g=>{dsimp only;split<;>simp_all<;>cases b<;>rfl})})
def tj:Nat->Option aZ:=λ_=>none
structure GOut (ops:Array Oper) (o:Oper) (st:St) (k:St->Bool->Prop) (p:Nat->Option SV) (w:Bool):Prop where
 pd:∀t,t∉gi ops o->p t=none
 next:k (ov p tj st) w
 again:∀(ia:St)(k2:St->Bool->Prop),(∀t∈gi ops o,ia.ay t=st.ay t)->k2 (ov p tj ia) w->Dt ops o ia k2
def g_ {ops:Array Oper}{o:Oper}{st:St}{k:St->md->Prop}(h:Dt ops o st k):∃p w,GOut ops o st k p w:=by unfold Dt at h;split at h;{rename_i i;exact ⟨λ_=>none,true,λ_ _=>rfl,h,λia n _ d=>by unfold Dt;rw [i];exact d⟩};{rename_i j b i;split at h;{exact h.elim};{rename_i g m;have a:gi ops o=[g]:=by{simp only [gi,i,m]};split at h;{rename_i l;exact ⟨λ_=>none,b,λ_ _=>rfl,h,λia n f d=>by unfold Dt;simp only [i,m,f g (by simp [a]),l];exact d⟩};{rename_i l;exact ⟨λ_=>none,!b,λ_ _=>rfl,h,λia n f d=>by unfold Dt;simp only [i,m,f g (by simp [a]),l];exact d⟩};{rename_i c l;(cases c with|true=>{refine ⟨one (some g) (.c .tt),b,λt q=>eW (by intro e;apply q;rw [a];simpa using e.symm),?_,λia n f d=>?_⟩;{have:=h.1 rfl;rw [gE] at this;exact this};{unfold Dt;simp only [i,m,f g (by simp [a]),l];exact ⟨λ_=>by rw [gE];exact d,λe=>by cases e⟩}}|false=>{refine ⟨one (some g) (.c .ff),!b,λt q=>eW (by intro e;apply q;rw [a];simpa using e.symm),?_,λia n f d=>?_⟩;{have:=h.2 rfl;rw [gE] at this;exact this};{unfold Dt;simp only [i,m,f g (by simp [a]),l];exact ⟨λe=>(by cases e),λ_=>by rw [gE];exact d⟩}})};{rename_i xs l;exact ⟨λ_=>none,false,λ_ _=>rfl,h,λia n f d=>by unfold Dt;simp only [i,m,f g (by simp [a]),l];exact d⟩};{exact h.elim}}}
def rj {ops:Array Oper}{o:Oper}{st:St}{k k':St->md->Prop}(u:∀s w,k s w->k' s w)(h:Dt ops o st k):Dt ops o st k':=by have ⟨p,w,a⟩:=g_ h;grind [a.again,a.next]
def put_comm {st:St}{d u:Option Nat}{x y:SV}(h:∀k,d=some k->u≠some k):(st.put d x).put u y=(st.put u y).put d x:=by (cases d with|none=>rfl|some d=>{(cases u with|none=>rfl|some u=>{have a:d≠u:=λe=>h d rfl (by rw [e]);simp only [St.put];grind [gV]})})
def LA {ops:Array Oper}{D E:Oper}{st:St}{F:St->md->md->Prop}(h:Dt ops D st λs M=>Dt ops E s λs' N=>F s' M N):Dt ops E st λs N=>Dt ops D s λs' M=>F s' M N:=by by_cases f:∃g,gi ops D=[g]/\gi ops E=[g];{obtain ⟨g,a,b⟩:=f;unfold gi at a b;split at a;{cases a};{rename_i u v i;split at a;{rename_i w j;cases a;split at b;{cases b};{rename_i x y k;split at b;{rename_i z l;cases b;unfold Dt at h ⊢;simp only [i,k,j,l] at h ⊢;split at h;{rename_i n;exact h};{rename_i n;exact h};{grind [eA]};{rename_i xs n;exact h};{exact h.elim}};{cases b}}};{cases a}}};{have ⟨q,M,d⟩:=g_ h;have ⟨r,N,e⟩:=g_ d.next;have p:∀o:Oper,gi ops o=[]\/∃g,gi ops o=[g]:=by{intro o;unfold gi;grind};have c:∀t,t∈gi ops D->t∉gi ops E:=χ;refine e.again st _ (λt m=>?_) (d.again _ _ (λt m=>?_) ?_);{show st.ay t=(ov q tj st).ay t;simp [ov,d.pd t (λh=>c t h m)]};{show (ov r tj st).ay t=st.ay t;simp [ov,e.pd t (c t m)]};grind [tj,G3,e.pd,d.pd,e.next]}
theorem ki {o:Oper}{k:Nat}(h:o.dst=some k):k∈fJ o:=by simp [fJ,h]
def VZ {ops:Array Oper}{m1 m2:CM}{h1 h2:ù}{o1 Z:Oper}{st:St}{V:ut}{K:St->ut->Prop}(hi:Ę LF RF ops h1 h2 o1 Z=true)(hm:qJ (bF LF RF Z.op)=true\/(bF LF RF Z.op=.call/\m2=.none)\/((bF LF RF Z.op=.nI/\m2=.ar)\/(bF LF RF Z.op=.give/\m2=.give)\/bF LF RF Z.op=.app))(hv:we P T m1 h1 ops o1 st V λst1 V1=>we P T m2 h2 ops Z st1 V1 K):we P T m2 h2 ops Z st V λia V2=>we P T m1 h1 ops o1 ia V2 K:=by unfold Ę at hi;simp only [Č] at hi;obtain ⟨⟨⟨⟨⟨v,f⟩,g⟩,w⟩,y⟩,l⟩:=hi;split at l;{rename_i S U W X z o;simp only [Č] at l;obtain ⟨⟨L,n⟩,A⟩:=l;rw [I2] at f g w y L n A;have B:∀k,Z.dst=some k->o1.dst≠some k:=λk C F=>f k (ki F) (by simp [ki C]);simp only [HA] at hv ⊢;have O:Dt ops o1 st λs m=>Dt ops Z s λD j=>o_ P T m1 h1 o1 V (λr G=>o_ P T m2 h2 Z G K r j) D m:=by{refine rj (λs m c=>?_) hv;(cases m with|true=>{have ⟨p,q,i⟩:=rV v z c;have ⟨E,j,b⟩:=g_ i.next;refine b.again s _ (λt a=>?_) ?_;{show s.ay t=(ov p q s).ay t;simp [ov,i.pd t (λh=>f t h (by simp [a]))]};{refine i.again _ V _ (Ó.Le.refl V) (λt a=>?_) (λ_ _=>rfl) ?_;{show (ov E tj s).ay t=s.ay t;simp [ov,b.pd t (λh=>y t h a)]};grind [G3,tj,b.next,i.pd,b.pd]}}|false=>{simp only [o_] at c;have ⟨E,j,b⟩:=g_ c;have Q:∀k,o1.dst=some k->E k=none:=λk C=>b.pd k (λh=>f k (ki C) (by simp [h]));refine b.again s _ (λt a=>?_) ?_;{rw [gE];simp [ov,eW (d:=o1.dst) (x:=lM) (t:=t) (λh=>f t (ki h) (by simp [a]))]};{show o_ P T m2 h2 Z V K ((ov E tj s).put o1.dst lM) j;rw [lE Q];exact b.next}})};have R:Dt ops Z st λs j=>Dt ops o1 s λD m=>o_ P T m2 h2 Z V (λr G=>o_ P T m1 h1 o1 G K r m) D j:=by{refine rj (λs j c=>rj (λD m c=>?_) c) (LA O);(cases m with|true=>{have ⟨p,q,i⟩:=rV v z c;(cases j with|true=>{refine wP hm o (λt a=>i.pd t (λh=>f t h (by rcases a with a|a<;>simp [a]))) (λs u=>i.qd s (λh=>L s h u)) (λs u=>i.qd s (λh=>A s h u)) (λs2 V2 b=>?_) i.next;obtain ⟨M,H,N,I⟩:=b;exact i.again s2 V2 K M (λt a=>H t (λh=>g t h (by simp [a]))) (λs u=>N s (λh=>n s h u)) I}|false=>{refine i.again _ V K (Ó.Le.refl V) (λt a=>?_) (λs _=>by cases Z.dst<;>rfl) ?_;{rw [gE];simp [ov,eW (d:=Z.dst) (x:=lM) (t:=t) (λh=>g t (ki h) (by simp [a]))]};grind [i.next,o_,lE,i.pd,ki]})}|false=>{(cases j with|true=>{simp only [o_] at c ⊢;rw [gE] at c;refine wP hm o (λt a=>eW (λe=>f t (ki e) (by rcases a with a|a<;>simp [a]))) (λs u=>rfl) (λs u=>rfl) (λs2 V2 b=>?_) c;have:=b.2.2.2;grind [gE]}|false=>{simp only [o_] at c ⊢;rw [put_comm B];exact c})})};refine rj (λs j c=>?_) R;(cases j with|true=>{simp only [o_] at c ⊢;have ⟨p,m,b⟩:=g_ c;refine wP hm o (λt a=>b.pd t (λh=>?_)) (λ_ _=>rfl) (λ_ _=>rfl) (λs2 V2 J=>?_) b.next;{rcases a with a|a;{exact w t h a};{exact g t a (by simp [h])}};{obtain ⟨M,H,N,I⟩:=J;exact b.again s2 _ (λt a=>H t (λh=>g t h (by simp [a]))) I}}|false=>{simp only [o_] at c ⊢;have ⟨p,m,b⟩:=g_ c;refine b.again _ _ (λt a=>?_) ?_;{rw [gE];simp [ov,eW (d:=Z.dst) (x:=lM) (t:=t) (λh=>g t (ki h) (by simp [a]))]};{have:=b.next;rw [lE (λk C=>b.pd k (λh=>g k (ki C) (by simp [h])))] at this;exact this}})};{cases l}
end
end Go.Eng
