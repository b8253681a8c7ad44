import Derived.Test.YtlhmddanbgcbjaaGreatDoorF1
set_option linter.all false
open Go.IntKind (i64 u64 u32)
namespace Go.Eng
section
variable {P:Program} {T:eu} {n:Nat} {V0:Ó} {bQ:Lt} {β0:Nat->Nat} {st:St} {β:Nat->Nat} {a:Act} {w:World} {V:Ó}
theorem gP (b o k:Nat):(⟨b,o,none⟩:Addr).add k=⟨b,o+k,none⟩:=by unfold Addr.add;split;{rename_i h;subst h;rfl};{rfl}
theorem cell_of_row {g o:Nat}{vs:pz un}{ty:TypeId}(h:w.heap[g]?=some (.cells vs.toArray ty (0,0))):w.cell? ⟨g,o,none⟩=vs[o]?:=by simp [World.cell?,h]
theorem JR {g o m:Nat}{vs:pz un}{ty t:TypeId}{info:TypeInfo}{d:TypeDesc}(h:w.heap[g]?=some (.cells vs.toArray ty (0,0)))(h1:P.info? t=some info)(h2:P.underlying t=some d)(hm:info.size=m)(hk:wI (mU d)=true)(hl:o+m<=vs.length):(loadVar t ⟨g,o,none⟩).run P w=.ok (.agg ((vs.drop o).take m).toArray) w:=by
 subst hm
 have key:=run_loadCells_list (P:=P) (w:=w) ⟨g,o,none⟩ ((vs.drop o).take info.size) (by
  intro j v a;rw [gP,cell_of_row h];rw [ğ] at a;split at a
  ·rw [Qn6] at a;exact a
  ·cases a)
 rw [é,Ĵ,ģ ω] at key;simp only [loadVar,Sem.run_bind,jw h2,Result.andThen_ok,hk,Ï,aT h1,key,Sem.run_pure]
def FZ {g o:Nat}{vs:pz un}{ty t:TypeId}{d:TypeDesc}{v:un}(h:w.heap[g]?=some (.cells vs.toArray ty (0,0)))(h2:P.underlying t=some d)(hk:wI (mU d)=false)(hv:vs[o]?=some v):(loadVar t ⟨g,o,none⟩).run P w=.ok v w:=by simp only [loadVar,Sem.run_bind,jw h2,Result.andThen_ok,hk,ň,Ð,run_load,cell_of_row h,hv]
def Ü.row (hM:Ü n V0 bQ β0 st β a w V){s:Nat}{b:aX}(hb:st.boxes s=some b)(lb:b.live):w.heap[β s]?=some (.cells (b.cs.den β).toArray b.ty (0,0)):=hM.boxes s b hb lb
def va {cs:pz C}{c:C}{s:Nat}(hc:c∈cs)(hs:s∈c.ids):s∈cs.flatMap C.ids:=Đ.2 ⟨c,hc,hs⟩
def F7 (hM:Ü n V0 bQ β0 st β a w V){t:TypeId}{i:TI}(hi:oO P t=some i){x:SV}{sc:pz Prop}{v:SV}(h:lJ st.boxes i x=.ret sc v):(Instr.loadAt t (x.den β)).run P w=.ok (v.den β) w/\Č st v:=by
 obtain ⟨info,d,z,B,y,D,A,E,-⟩:=aK hi;unfold lJ at h;split at h
 ·rename_i b o;split at h
  ·rename_i cs ty r;have f:=hM.row r dP;have e:=hM.DW b _ r;simp only [ã.den] at f
   have g:wI i.k=true->(if Nat.ble (o+i.size) cs.length then Q.ret [] (.agg ((cs.drop o).take i.size)) else .fail)=.ret sc v ->
     (Instr.loadAt t (SV.den β (.c (.ptr b o)))).run P w=.ok (v.den β) w/\Č st v:=by
    intro j h;split at h
    ·rename_i u;have u:=Œ u;simp only [Q.ret.injEq] at h;obtain ⟨-,rfl⟩:=h;refine ⟨?_,?_⟩;{grind [JR,Instr.loadAt,Instr.sureAddr,SV.den,C.den,List.map_take,List.map_drop]};{intro s l;have ⟨c,m,l⟩:=Đ.1 l;exact e s (va (Qg5 (Qn5 m)) l)}
    ·cases h
   split at h
   ·rename_i j;exact g (by rw [j];rfl) h
   ·rename_i j;exact g (by rw [j];rfl) h
   ·rename_i p q;have j:wI i.k=false:=by{(cases hik:i.k<;>first|rfl|exact Å hik (p _)|exact Å hik (q _ _))};split at h;{rename_i c m;simp only [Q.ret.injEq] at h;obtain ⟨-,rfl⟩:=h;refine ⟨?_,?_⟩;{have:=FZ (t:=t) (o:=o) (v:=c.den β) f y (A▸j) (by simp [m]);grind [Instr.loadAt,Instr.sureAddr,SV.den,C.den]};{intro s l;exact e s (va (Qb3 m) l)}};{cases h}
  ·cases h
  ·split at h<;>cases h
  ·cases h
 ·split at h<;>cases h
 ·cases h
def DR.fC:∀(s:DR) {K:C->Prop},s.ex K->∃c,c.ids=[]/\K c
 | .int _,_,⟨_,h⟩=>⟨_,rfl,h⟩
 | .bool,_,⟨_,h⟩=>⟨_,rfl,h⟩
 | .slice,_,⟨_,_,_,h⟩=>⟨_,rfl,h⟩
 | .ptr,_,⟨_,h⟩=>⟨_,rfl,h⟩
 | .str,_,⟨_,h⟩=>⟨_,rfl,h⟩
 | .any,_,⟨_,h⟩=>⟨_,rfl,h⟩
def u_:∀(l:pz DR) {K:pz C->Prop},ZD l K->∃cs,cs.flatMap C.ids=[]/\cs.length=l.length/\K cs
 | [],_,h=>⟨[],rfl,rfl,h⟩
 | s::r,K,h=>by
  have ⟨c,hc,h'⟩:=DR.fC s h;have ⟨cs,a,b,d⟩:=u_ r h';grind
def AX.fC:∀(s:AX) {K:SV->Prop},s.ex K->∃x,x.ids=[]/\((∃c,x=.c c/\∃s',s=.one s')\/∃cs l,x=.agg cs/\s=.agg l/\cs.length=l.length)/\K x
 | .one s,K,h=>by have ⟨c,hc,h'⟩:=DR.fC s h;exact ⟨.c c,hc,.inl ⟨c,rfl,s,rfl⟩,h'⟩
 | .agg l,K,h=>by have ⟨cs,a,b,h'⟩:=u_ l h;exact ⟨.agg cs,a,.inr ⟨cs,l,rfl,rfl,b⟩,h'⟩
def BI:∀(l:pz AX) {K:pz (md×pz C)->Prop},exT l K->∃xs,(xs.flatMap λx=>x.2.flatMap C.ids)=[]/\K xs
 | [],_,h=>⟨[],rfl,h⟩
 | .one s::r,K,h=>by
  have ⟨c,hc,h'⟩:=DR.fC s h;have ⟨xs,a,b⟩:=BI r h';grind
 | .agg l::r,K,h=>by
  obtain ⟨cs,hc,-,h'⟩:=u_ l h;have ⟨xs,a,b⟩:=BI r h';grind
def Sh.fC:∀(s:Sh) {K:SV->Prop},s.ex K->∃x,x.ids=[]/\K x
 | .val s,K,h=>by obtain ⟨x,hx,-,h'⟩:=AX.fC s h;exact ⟨x,hx,h'⟩
 | .wF l,K,h=>by have ⟨xs,hx,h'⟩:=BI l h;exact ⟨.wF xs,hx,h'⟩
 | .none,K,h=>⟨.wF [],rfl,h⟩
theorem kE {x:SV}(h:x.ids=[])(β β':Nat->Nat):x.den β=x.den β':=SV.b_ λs a=>by rw [h] at a;cases a
def cz {x:SV}(h:x.ids=[]):Č st x:=λs a=>by rw [h] at a;cases a
def Kp:∀(cs:pz C) (p:Addr) (i:Nat) {k:Prop},V.Xp p i cs k->(∀j c,cs[j]?=some c->V.at (p.add (i+j)) (c.den λ_=>0))/\k
 | [],_,_,_,h=>⟨λj c hj=>by simp at hj,h⟩
 | c::r,p,i,k,⟨h1,h2⟩=>by
  have ⟨h3,h4⟩:=Kp r p (i+1) h2;grind
theorem Ü.atV (hM:Ü n V0 bQ β0 st β a w V){p:Addr}{v:un}(h:V.at p v):w.cell? p=some v:=by obtain ⟨d,b⟩:=h;unfold World.cell? at b ⊢;split at b;{rename_i c e f g;rw [(hM.rS p.block _ ⟨d,g⟩).1];exact b};{cases b}
def OR {i:TI}{l:pz DR}(h:nR i=.agg l):wI i.k=true/\l.length=i.zero.length:=by unfold nR at h;split at h;{rename_i a;simp only [AX.agg.injEq] at h;subst h;exact ⟨by rw [a];rfl,ψ⟩};{rename_i a;simp only [AX.agg.injEq] at h;subst h;exact ⟨by rw [a];rfl,ψ⟩};{split at h<;>cases h}
def OS {i:TI}{s:DR}(h:nR i=.one s):wI i.k=false:=by unfold nR at h;split at h;{cases h};{cases h};{rename_i a b;(cases hik:i.k<;>first|rfl|exact Å hik (a _)|exact Å hik (b _ _))}
def rd_run (hM:Ü n V0 bQ β0 st β a w V){t:TypeId}{i:TI}(hi:oO P t=some i)(hz:i.zero.length=i.size){p:OA}{x:SV}{k:Prop}(hx:x.ids=[])(hs:(∃c,x=.c c/\∃s',nR i=.one s')\/∃cs l,x=.agg cs/\nR i=.agg l/\cs.length=l.length)(h:V.Xo p x k):(Instr.loadAt t (.pointer p)).run P w=.ok (x.den β) w/\k:=by
 obtain ⟨info,d,z,r,o,F,q,u,-⟩:=aK hi;rcases hs with ⟨c,rfl,s,hs⟩|⟨cs,l,rfl,hs,y⟩
 ·obtain ⟨⟨f,rfl,g⟩,A⟩:=h;have b:=OS hs;rw [q] at b;refine ⟨?_,A⟩;simp only [Instr.loadAt,Instr.sureAddr,Sem.run_bind,Sem.run_pure,Result.andThen_ok,loadVar,jw o,b,ň,Ð,run_load,hM.atV g];rw [kE hx β λ_=>0];rfl
 ·obtain ⟨f,rfl,B⟩:=h;have ⟨b,m⟩:=OR hs;rw [q] at b;have ⟨D,E⟩:=Kp cs f 0 B;refine ⟨?_,E⟩
  have key:=run_loadCells_list (P:=P) (w:=w) f (cs.map (C.den λ_=>0)) (by
   intro j v e;rw [Wy9] at e
   cases hc:cs[j]? with
   | none=>rw [hc] at e;cases e
   | some c=>
    rw [hc] at e;simp only [Wk3,ý] at e;subst e;have:=hM.atV (D j c hc);simpa using this)
  rw [ď,y,m,hz,u] at key;simp only [Instr.loadAt,Instr.sureAddr,Sem.run_bind,Sem.run_pure,Result.andThen_ok,loadVar,jw o,b,Ï,aT r,key];rw [kE hx β λ_=>0];rfl
def F9 (hM:Ü n V0 bQ β0 st β a w V){t:TypeId}{i:TI}(hi:oO P t=some i){b o:Nat}{vs:pz un}{ty:TypeId}(hb:st.boxes b=some ⟨.row vs,ty⟩\/(st.boxes b=some ⟨.aB vs,ty⟩/\i.size≠0)){x:SV}(hx:x.ids=[])(hs:(∃c,x=.c c/\∃s',nR i=.one s')\/∃cs l,x=.agg cs/\nR i=.agg l/\cs.length=l.length)(h:Xx vs o i.size x):(Instr.loadAt t (SV.den β (.c (.ptr b o)))).run P w=.ok (x.den β) w:=by obtain ⟨info,d,z,p,j,A,k,q,-⟩:=aK hi;have g:w.heap[β b]?=some (.cells vs.toArray ty (0,0)):=by{rcases hb with hb|⟨hb,B⟩;{exact hM.row hb dQ};{refine hM.row hb (gE λe=>?_);subst e;rcases hs with ⟨c,rfl,s,hs⟩|⟨cs,l,rfl,hs,r⟩;{simp [Xx] at h};{have:=h.1;simp at this;omega}}};rcases hs with ⟨c,rfl,s,hs⟩|⟨cs,l,rfl,hs,r⟩;{have f:=OS hs;rw [k] at f;have:=FZ (t:=t) (o:=o) g j f h;rw [show SV.den β (.c c)=C.den (λ_=>0) c from kE (x:=.c c) hx β _];show (Instr.loadAt t (.pointer (some ⟨β b,o,none⟩))).run P w=_;grind [Instr.loadAt,Instr.sureAddr]};{have ⟨f,u⟩:=OR hs;rw [k] at f;obtain ⟨v,y⟩:=h;have:=JR (t:=t) (o:=o) (m:=i.size) g p j q.symm f v;simp only [Instr.loadAt,Instr.sureAddr,C.den,SV.den,Sem.run_bind,Sem.run_pure,Result.andThen_ok,this,y];have:=kE (x:=.agg cs) hx β λ_=>0;grind [SV.den]}
def one_of {c:C}(h:∀p∈gU c,p):(c.den β).oneCell'=true:=by (cases c with|v x=>{(cases x<;>first|rfl|exact (h False (by simp [gU])).elim)}|w x=>{exact h (x.oneCell'=true) (by simp [gU])}|_=>rfl)
def PC {v:un}(h:v.oneCell'=true):v.cells=#[v]:=by cases v<;>first|rfl|simp [Value.oneCell'] at h
def SV.wW {x:SV}(ht:x.BX=false)(h:∀p∈x.gU,p):(x.den β).cells=(x.cells.map (C.den β)).toArray/\∀v∈x.cells.map (C.den β),v.oneCell'=true:=by have b:∀c∈x.cells,(c.den β).oneCell'=true:=λc a=>one_of λp d=>h p (Đ.2 ⟨c,a,d⟩);refine ⟨?_,λv e=>by obtain ⟨c,a,rfl⟩:=ò.1 e;exact b c a⟩;(cases x with|c c=>{exact PC (b c (by simp [SV.cells]))}|agg cs=>rfl|wF xs=>{cases ht})
def lN {g:Nat}{old cs:Array un}{ty:TypeId}(h:w.heap[g]?=some (.cells old ty (0,0))):(w.setRow g cs).heap=w.heap.setIfInBounds g (.cells cs ty (0,0)):=by apply Array.ext_getElem?;grind [setRow_heap,setRow_other]
theorem gH {cs:pz C}{vs:pz un}(h:mG cs=some vs):cs.map (C.den β)=vs/\cs.flatMap C.ids=[]:=by
 induction cs generalizing vs with
 | nil=>simp [mG] at h;subst h;exact ⟨rfl,rfl⟩
 | cons c r ih=>
  simp only [mG] at h;split at h
  ·rename_i v ws b a;simp only [ý] at h;subst h;have ⟨d,e⟩:=ih a;have:c.den β=v/\c.ids=[]:=by{cases c<;>simp_all [C.val?,C.den,C.ids]};grind
  ·cases h
theorem vO {cs xs:pz C}{o:Nat}:(Ā cs o xs).map (C.den β)=(cs.map (C.den β)).take o++xs.map (C.den β)++(cs.map (C.den β)).drop (o+xs.length):=by simp [Ā,Wz2,Wz3]
def vN {cs xs:pz C}{o s:Nat}(h:s∈(Ā cs o xs).flatMap C.ids):s∈cs.flatMap C.ids\/s∈xs.flatMap C.ids:=by have ⟨c,a,b⟩:=Đ.1 h;simp only [Ā,õ] at a;grind
def lO {vs xs:pz un}{o:Nat}(h:o+xs.length<=vs.length:=by omega):bC vs o xs=vs.take o++xs++vs.drop (o+xs.length):=by unfold bC;grind [List.set_eq_take_append_cons_drop]
def SV.wX {x:SV}{s:Nat}(ht:x.BX=false):s∈x.cells.flatMap C.ids->s∈x.ids:=by cases x<;>grind [SV.cells,SV.ids]
def MM (hM:Ü n V0 bQ β0 st β a w V){t:TypeId}{i:TI}(hi:oO P t=some i){av xv:SV}(hx:Č st xv){sc:pz Prop}{s:Nat}{b:aX}(h:jt st.boxes i av xv=.zN sc s b)(hsc:∀p∈sc,p):∃w',(Instr.storeAt t (av.den β) (xv.den β)).run P w=.ok () w'/\Ü n V0 bQ β0 (st.box s b) β a w' V:=by
 obtain ⟨info,d,z,U,Y,Z,h4,h5,-⟩:=aK hi;unfold jt at h;split at h
 ·rename_i g o;split at h
  ·rename_i k;simp only [ċ,beq_eq,Qd5] at k;obtain ⟨hlen,y⟩:=k
   have core:∀(j:pz un)(ty:TypeId)(L:aX),w.heap[β g]?=some (.cells j.toArray ty (0,0))->(∀p∈xv.gU,p)->o+xv.cells.length<=j.length->L.ty=ty ->
     L.cs.den β=j.take o++xv.cells.map (C.den β)++j.drop (o+xv.cells.length) ->
     ∃w',(Instr.storeAt t (SV.den β (.c (.ptr g o))) (xv.den β)).run P w=.ok () w'/\w'.heap=w.heap.setIfInBounds (β g) (L.obj β)/\w'.os=w.os/\w'.tape=w.tape/\w'.output=w.output/\w.drawn<=w'.drawn:=by
    intro j ty L f A hle N B;have ⟨D,O⟩:=SV.wW (β:=β) y A;have key:=run_storeCells_at (P:=P) (β g) o ty (xv.cells.map (C.den β)) 0 j.toArray w f (by simpa using hle) O;refine ⟨w.setRow (β g) (j.take o++xv.cells.map (C.den β)++j.drop (o+xv.cells.length)).toArray,?_,?_⟩
    ·generalize xv.den β=v at D;show (Instr.storeAt t (.pointer (some ⟨β g,o,none⟩)) v).run P w=_;simp only [Instr.storeAt,Instr.sureAddr,Sem.run_bind,Sem.run_pure,Result.andThen_ok,storeVar,aT U,D];grind
    ·exact ⟨by rw [lN f,aX.obj,B,N],rfl,rfl,rfl,Ù _⟩
   split at h
   ·rename_i cs ty q;split at h;{rename_i W;simp only [Q.zN.injEq] at h;obtain ⟨rfl,rfl,rfl⟩:=h;have f:=hM.row q dP;have ⟨w',E,F,G,H,I,J⟩:=core _ _ ⟨.lit (Ā cs o xv.cells),ty⟩ f hsc (by simpa [ã.den,hlen] using (Œ W)) rfl (by simp only [ã.den];exact vO);refine ⟨w',E,hM.zN q dP ?_ F G H I J⟩;intro M l;rcases vN l with R|R;{exact hM.DW _ _ q M R};{exact hx M (SV.wX y R)}};{cases h}
   ·rename_i x ty q;split at h
    ·rename_i xs r;simp only [Q.zN.injEq] at h;obtain ⟨rfl,rfl,rfl⟩:=h;have f:=hM.row q dQ;have ⟨m,S⟩:=gH (β:=β) r;have hle:o+i.size<=x.length:=hsc _ ψ;have u:xs.length=i.size:=by rw [<-m,ď,hlen]
     have ⟨w',E,F,G,H,I,J⟩:=core _ _ ⟨.row (bC x o xs),ty⟩ f (λp T=>hsc p (ĭ _ T)) (by simpa [ã.den,hlen] using hle) rfl (by
      simp only [ã.den];rw [lO,m,hlen,u])
     exact ⟨w',E,hM.zN q dQ (by intro M l;simp [ã.ids] at l) F G H I J⟩
    ·cases h
   ·rename_i x ty q;split at h
    ·cases h
    rename_i X;split at h
    ·rename_i xs r;simp only [Q.zN.injEq] at h;obtain ⟨rfl,rfl,rfl⟩:=h;have ⟨m,S⟩:=gH (β:=β) r;have hle:o+i.size<=x.length:=hsc _ ψ
     have K:aX.live ⟨.aB x,ty⟩:=gE λe=>by subst e;simp at hle;exact X (by rw [hle.2];rfl)
     have u:xs.length=i.size:=by rw [<-m,ď,hlen]
     have ⟨w',E,F,G,H,I,J⟩:=core _ _ ⟨.aB (bC x o xs),ty⟩ (hM.row q K) (λp T=>hsc p (ĭ _ T)) (by simpa [ã.den,hlen] using hle) rfl (by
      simp only [ã.den];rw [lO,m,hlen,u])
     exact ⟨w',E,hM.zN q K (by intro M l;simp [ã.ids] at l) F G H I J⟩
    ·cases h
   ·cases h
  ·cases h
 ·cases h
end
section
variable {P:Program} {T:eu} {n:Nat} {V0:Ó} {bQ:Lt} {β0:Nat->Nat} {st:St} {β:Nat->Nat} {a:Act} {w:World} {V:Ó}
def PT (xs:pz un):∀(cs:Array un)(off:Nat),off+xs.length<=cs.size ->(xs.toArray.zipIdx.foldl (λcs (p:un×Nat)=>cs.setIfInBounds (off+p.2) p.1) cs)=(cs.toList.take off++xs++cs.toList.drop (off+xs.length)).toArray:=by
 have gen:∀(xs:pz un)(k:Nat)(cs:pz un)(off:Nat),off+k+xs.length<=cs.length ->
   (xs.zipIdx k).foldl (λ(cs:Array un) (p:un×Nat)=>cs.setIfInBounds (off+p.2) p.1) cs.toArray=(cs.take (off+k)++xs++cs.drop (off+k+xs.length)).toArray:=by
  intro xs
  induction xs with
  | nil=>intro k cs off _;simp
  | cons x r ih=>
   intro k cs off h;simp only [Ą] at h;simp only [List.zipIdx_cons,Qc6,List.setIfInBounds_toArray];rw [ih (k+1) (cs.set (off+k) x) off (by simp;omega)];congr 1;have a:off+k<cs.length:=ω
   rw [Qs2,Ä a]
   have b:(cs.take (off+k)++x::cs.drop (off+k+1)).take (off+(k+1))=cs.take (off+k)++[x]:=by rw [List.take_append,Qv3 (by simp;omega),é,ģ ω,show off+(k+1)-(off+k)=1 from ω];simp
   have c:(cs.take (off+k)++x::cs.drop (off+k+1)).drop (off+(k+1)+r.length)=cs.drop (off+k+(r.length+1)):=by rw [List.drop_append,Ĺ (by simp;omega),é,ģ ω,show off+(k+1)+r.length-(off+k)=r.length+1 from ω];grind [List.drop_drop]
   rw [b,c];simp
 intro cs off h;have:=gen xs 0 cs.toList off (by simpa using h);simpa [<-Array.foldl_toList] using this
def rD {place:Nat->Option (Nat×Nat)}:∀(ps:pz (Nat×SV))(cells out:pz C),sN place cells ps=some out ->(∀x∈ps,∀v:C,v∈x.2.cells->∀p∈gU v,p) ->Instr.fill place (cells.map (C.den β)).toArray (ps.map λx=>(x.1,x.2.den β))=some (out.map (C.den β)).toArray/\(∀s∈out.flatMap C.ids,s∈cells.flatMap C.ids\/∃x∈ps,s∈x.2.ids)
 | [],cells,out,h,_=>by
  simp only [sN,ý] at h;subst h;exact ⟨rfl,λs hs=>.inl hs⟩
 | (i,x)::r,cells,out,h,hone=>by
  simp only [sN] at h;split at h
  ·cases h
  ·rename_i off size hp;split at h
   ·rename_i hc;simp only [ċ,beq_eq,Qd5] at hc;obtain ⟨⟨hl,hle⟩,hnt⟩:=hc;have hle:=Œ hle;have hnt:x.BX=false:=by simpa using hnt
    have e:∀p∈x.gU,p:=λp hp=>by
     have ⟨v,f,hp⟩:=Đ.1 hp;exact hone (i,x) ψ v f p hp
    obtain ⟨b,-⟩:=SV.wW (β:=β) hnt e;have ⟨j,g⟩:=rD r _ _ h (λy c=>hone y (ó _ c));refine ⟨?_,?_⟩
    ·simp only [Ļ,Instr.fill,hp];rw [Ã (by rw [b];simp [hl];omega)];rw [b];have:=PT (x.cells.map (C.den β)) (cells.map (C.den β)).toArray off (by simpa [hl] using hle);grind [vO]
    ·intro s hs;rcases g s hs with d|⟨y,c,d⟩
     ·rcases vN d with a|a
      ·exact .inl a
      ·exact .inr ⟨(i,x),ψ,SV.wX hnt a⟩
     grind
   ·cases h
def mE (hM:Ü n V0 bQ β0 st β a w V):∀(l:pz (Nat×Operand))(ps:pz (Nat×SV)),ñ st.bG l=some ps ->(l.map λx=>(x.1,a.eval x.2))=(ps.map λx=>(x.1,x.2.den β))/\∀x∈ps,Č st x.2
 | [],ps,h=>by simp only [ñ,ý] at h;subst h;exact ⟨rfl,λx hx=>by cases hx⟩
 | (i,o)::r,ps,h=>by
  simp only [ñ] at h;split at h
  ·rename_i x l hx hl;simp only [ý] at h;subst h;have ⟨h1,h2⟩:=mE hM r l hl;refine ⟨by simp [h1,hM.eval hx],λy b=>?_⟩;rcases å.1 b with rfl|b
   ·exact hM.live hx
   ·exact h2 y b
  ·cases h
def iB (hM:Ü n V0 bQ β0 st β a w V):∀(l:pz Operand)(xs:pz SV),dh st.bG l=some xs ->l.map a.eval=xs.map (SV.den β)/\∀x∈xs,Č st x
 | [],xs,h=>by simp only [dh,ý] at h;subst h;exact ⟨rfl,λx hx=>by cases hx⟩
 | o::r,xs,h=>by
  simp only [dh] at h;split at h
  ·rename_i x l hx hl;simp only [ý] at h;subst h;have ⟨h1,h2⟩:=iB hM r l hl;refine ⟨by simp [h1,hM.eval hx],λy b=>?_⟩;rcases å.1 b with rfl|b
   ·exact hM.live hx
   ·exact h2 y b
  ·cases h
def pF (hT:eu.ok P T):∀(gs:pz Field)(pl:pz (Nat×Nat)),iu T (gs.map λf=>(f.type,f.offset))=some pl ->∀w:World,(gs.mapM λf:Field=>do pure (f.offset,<-sizeOf f.type)).run P w=.ok pl w
 | [],pl,h,w=>by simp only [List.map_nil,iu,ý] at h;subst h;simp
 | f::r,pl,h,w=>by
  simp only [Ļ,iu] at h;split at h
  ·rename_i i l hi hl;simp only [ý] at h;subst h;obtain ⟨info,d,z,h1,h2,h3,h4,h5,-⟩:=aK (hT _ _ hi);have:=pF hT r l hl w;simp only [bind_pure_comp] at this;simp [List.mapM_cons,aT h1,this,h5]
  ·cases h
def fV {i:TI}{z:un}(h:i.zero=z.cells.toList.map C.ofConst):(i.zero.map (C.den β)).toArray=z.cells/\i.zero.flatMap C.ids=[]:=by rw [h];exact ⟨by rw [JT],Hi _⟩
def Hs {ps:pz (Nat×SV)}(h:∀p∈ps.flatMap (λx=>x.2.gU),p):∀x∈ps,∀v:C,v∈x.2.cells->∀p∈gU v,p:=
 λx a v b p c=>h p (Đ.2 ⟨x,a,Đ.2 ⟨v,b,c⟩⟩)
def parts_eq {parts:Array (Nat×Operand)}{ps:pz (Nat×SV)}(h:(parts.toList.map λx=>(x.1,a.eval x.2))=(ps.map λx=>(x.1,x.2.den β))):(parts.map λx=>(x.1,a.eval x.2)).toList=ps.map λx=>(x.1,x.2.den β):=by rw [Qf9];exact h
def GH (hT:eu.ok P T)(hM:Ü n V0 bQ β0 st β a w V){t:TypeId}{i:TI}(hi:oO P t=some i){fs:pz (TypeId×Nat)}(hk:i.k=.struct fs){parts:Array (Nat×Operand)}{ps:pz (Nat×SV)}(hp:ñ st.bG parts.toList=some ps){pl:pz (Nat×Nat)}(hpl:iu T fs=some pl){cs:pz C}(hf:sN (λj=>pl[j]?) i.zero ps=some cs)(hsc:∀p∈ps.flatMap (λx=>x.2.gU),p):(Instr.build t (parts.map λx=>(x.1,a.eval x.2))).run P w=.ok (SV.den β (.agg cs)) w/\Č st (.agg cs):=by have ⟨info,d,z,b,c,e,g,A,B,l⟩:=aK hi;have ⟨m,o⟩:=mE hM _ _ hp;rw [g] at hk;obtain ⟨gs,rfl,rfl⟩:=lj hk;have ⟨q,r⟩:=fV (β:=β) l;have ⟨f1,f2⟩:=rD (β:=β) _ _ _ hf (Hs hsc);have hm:=pF hT gs.toList pl hpl w;refine ⟨?_,?_⟩;{have u:(gs.mapM λf:Field=>do pure (f.offset,<-sizeOf f.type)).run P w=.ok pl.toArray w:=by{grind [Array.mapM_eq_mapM_toList,Sem.run_map,Result.andThen_ok]};simp only [Instr.build,Sem.run_bind,kU b e,Result.andThen_ok,ai c,u];rw [parts_eq m,<-q];have:(λj:Nat=>pl.toArray[j]?)=λj:Nat=>pl[j]?:=by{funext j;simp};rw [this,f1];rfl};{intro s v;rcases f2 s v with h|⟨x,y,h⟩;{rw [r] at h;cases h};{exact o x y s h}}
def IV (hT:eu.ok P T)(hM:Ü n V0 bQ β0 st β a w V){t:TypeId}{i:TI}(hi:oO P t=some i){m:Nat}{e:TypeId}(hk:i.k=.arr m e){parts:Array (Nat×Operand)}{ps:pz (Nat×SV)}(hp:ñ st.bG parts.toList=some ps){ei:TI}(he:aF T e=some ei){cs:pz C}(hf:sN (λj=>some (j*ei.size,ei.size)) i.zero ps=some cs)(hsc:∀p∈ps.flatMap (λx=>x.2.gU),p):(Instr.build t (parts.map λx=>(x.1,a.eval x.2))).run P w=.ok (SV.den β (.agg cs)) w/\Č st (.agg cs):=by have ⟨info,d,z,b,c,f,g,D,E,l⟩:=aK hi;have ⟨F,G,H,o,I,J,K,q,L,M⟩:=aK (hT _ _ he);have ⟨r,u⟩:=mE hM _ _ hp;rw [g] at hk;obtain rfl:=qi hk;have ⟨v,y⟩:=fV (β:=β) l;have ⟨f1,f2⟩:=rD (β:=β) _ _ _ hf (Hs hsc);refine ⟨?_,?_⟩;{simp only [Instr.build,Sem.run_bind,kU b f,Result.andThen_ok,ai c,aT o];rw [parts_eq r,<-v,<-q,f1];rfl};{intro s A;rcases f2 s A with h|⟨x,B,h⟩;{rw [y] at h;cases h};{exact u x B s h}}
def QI {α:Type}[Inhabited α](zs:pz α)(m:Nat):((List.range (m*zs.length)).map λj=>zs.toArray[j%zs.length]!)=(List.replicate m zs).flatten:=by
 induction m with
 | zero=>simp
 | succ m ih=>
  rw [List.replicate_succ',List.flatten_append,<-ih,Ś,List.range_add,ŝ];congr 1;simp only [List.flatten_cons,List.flatten_nil,Ć,Wx6];apply Qg8;grind [List.getElem?_range,Nat.add_mul_mod_self_right,Nat.mod_eq_of_lt]
def Xr (m:Nat)(zs:pz C):(rep m zs).map (C.den β)=(List.replicate m (zs.map (C.den β))).flatten:=by unfold rep;rw [List.map_flatten,List.map_replicate]
def Xq {m:Nat}{zs:pz C}(h:zs.flatMap C.ids=[]):(rep m zs).flatMap C.ids=[]:=by
 unfold rep
 induction m<;>grind
theorem rT (m:Nat)(zs:pz un):wC m zs=(List.replicate m zs).flatten:=by
 unfold wC;split
 ·rename_i z
  induction m<;>grind
 ·rfl
theorem wK {z:un}{m:Nat}(k:Nat)(hk:k=m*z.cells.size):((Array.range k).map λj=>z.cells[j%z.cells.size]!)=((List.replicate m z.cells.toList).flatten).toArray:=by apply Ŋ;rw [Qf9,Array.toList_range];subst hk;have:=QI z.cells.toList m;simpa using this
def A_ {z:un}{m:Nat}(h0:m*z.cells.size=0):(List.replicate m z.cells.toList).flatten=[]:=by rcases Ww3.1 h0 with h|h;{subst h;rfl};{have:z.cells.toList=[]:=χ;rw [this];simp}
def Un:Array.range 0=#[]:=rfl
def Bb (hT:eu.ok P T)(hM:Ü n V0 bQ β0 st β a w V){t:TypeId}{i:TI}(hi:oO P t=some i){e:TypeId}(hk:i.k=.slice e){len:Nat}{parts:Array (Nat×Operand)}{ps:pz (Nat×SV)}(hp:ñ st.bG parts.toList=some ps){ei:TI}(he:aF T e=some ei)(hlen:len*ei.size<=16777216)(hzl:ei.zero.length=ei.size)(hz0:ei.size≠0){cs:pz C}(hf:sN (λj=>some (j*ei.size,ei.size)) (rep len ei.zero) ps=some cs)(hsc:∀p∈ps.flatMap (λx=>x.2.gU),p):(Instr.buildSlice t len (parts.map λx=>(x.1,a.eval x.2))).run P w=.ok (.slice (some ⟨w.heap.size,0,none⟩) len len) (w.alloc (aX.obj β ⟨.lit cs,e⟩))/\∀s∈cs.flatMap C.ids,∃b,st.boxes s=some b:=by have ⟨info,d,z,K,y,L,A,M,N,O⟩:=aK hi;obtain ⟨g,Q,l,r,R,B,S,o,U,D⟩:=aK (hT _ _ he);have ⟨u,E⟩:=mE hM _ _ hp;rw [A] at hk;obtain rfl:=bh hk;have ⟨v,F⟩:=fV (β:=β) D;have ⟨f1,f2⟩:=rD (β:=β) _ _ _ hf (Hs hsc);have f:l.cells.size=g.size:=by{rw [<-v];simp [hzl,o]};refine ⟨?_,?_⟩;{have c:((List.replicate len l.cells.toList).flatten).toArray=((rep len ei.zero).map (C.den β)).toArray:=by{rw [Xr,<-v]};have G:¬len*g.size>2^24:=by{rw [<-o];simpa using hlen};simp only [Instr.buildSlice,Sem.run_bind,ai y,Result.andThen_ok,aT r,Sem.run_ite,Ã G];by_cases q:len*g.size=0;{have H:=A_ (z:=l) (m:=len) (by rw [f];exact q);rw [H] at c;simp only [q,Ï,Sem.run_pure,Result.andThen_ok,Un,Array.map_empty,<-c] at f1 ⊢;rw [parts_eq u,<-o];rw [f1];simp only [Sem.run_bind,newRow,run_newObj,Result.andThen_ok,Sem.run_pure];rfl};{simp only [q,Ð,kU r B,Sem.run_pure,Result.andThen_ok];rw [wK (z:=l) (m:=len) (len*g.size) (by rw [f]),c,parts_eq u,<-o,f1];simp only [Sem.run_bind,newRow,run_newObj,Result.andThen_ok,Sem.run_pure];rfl}};{intro s I;rcases f2 s I with h|⟨x,J,h⟩;{rw [Xq F] at h;cases h};{exact E x J s h}}
def Gs {x:Int}(h0:0<=x)(h1:x<9223372036854775808:=by omega):i64.wrap x=x:=by unfold IntKind.wrap IntKind.bits IntKind.signed;simp;omega
def Ei (hT:eu.ok P T){t:TypeId}{i:TI}(hi:oO P t=some i){e:TypeId}(hk:i.k=.slice e){ei:TI}(he:aF T e=some ei){k1 k2:IntKind}{l c:Int}(hb:ei.bytes≠0)(hs:ei.size≠0){zs:pz un}(hz:mG ei.zero=some zs)(hzl:ei.size=zs.length)(c1:0<=l)(c2:l<=c)(c3:(ei.bytes:Int)*c<=2^47):(Instr.makeSlice t (.int k1 l) (.int k2 c)).run P w=.ok (.slice (some ⟨w.heap.size,0,none⟩) l.toNat c.toNat) (w.alloc (aX.obj β ⟨.row (wC c.toNat zs),e⟩)):=by obtain ⟨info,d,z,A,p,B,q,C,D,E⟩:=aK hi;have ⟨f,F,g,h,G,r,H,s,u,v⟩:=aK (hT _ _ he);rw [q] at hk;obtain rfl:=bh hk;have ⟨n,I⟩:=fV (β:=β) v;obtain ⟨d1,-⟩:=gH (β:=β) hz;have b:g.cells.size=f.size:=by{rw [<-n,d1];simp [<-hzl,s]};have o:c<=2^47:=by{have:1<=(ei.bytes:Int):=ω;have:=Int.mul_le_mul_of_nonneg_right this (by omega:0<=c);omega};have x:i64.wrap c=c:=Gs ω;rw [u] at c3;have t1:(decide (c<0)||decide ((f.bytes:Int)*c>2^48))=false:=χ;have t2:decide (l<0)=false:=by{simp;omega};have t3:decide (l>c)=false:=by{simp;omega};have a:(List.replicate c.toNat g.cells.toList).flatten=wC c.toNat zs:=by{rw [rT,<-d1,<-n]};simp only [Instr.makeSlice,Sem.run_bind,ai p,Result.andThen_ok,mR h,asInt,asIntOf,Sem.run_pure,(Gs c1),x,t1,t2,t3,Bool.or_self,ň,Ð,run_askRoom,aT h,Sem.run_ite];by_cases j:c.toNat*f.size=0;{have y:=A_ (z:=g) (m:=c.toNat) (by rw [b];exact j);rw [y] at a;simp only [j,Ï,Sem.run_bind,Sem.run_pure,Result.andThen_ok,Un,Array.map_empty,newRow,run_newObj,<-a];rfl};{simp only [j,Ð,kU h r,Result.andThen_ok];rw [wK (z:=g) (m:=c.toNat) (c.toNat*f.size) (by rw [b]),a];simp only [Sem.run_bind,newRow,run_newObj,Result.andThen_ok,Sem.run_pure];rfl}
end
section
variable {P:Program} {T:eu} {n:Nat} {V0:Ó} {bQ:Lt} {β0:Nat->Nat} {st:St} {β:Nat->Nat} {a:Act} {w:World} {V:Ó}
def Jv {gs:Array Field}{f ft off:Nat}(h:(gs.toList.map λf=>(f.type,f.offset))[f]?=some (ft,off)):∃Wq,gs[f]?=some Wq/\Wq.type=ft/\Wq.offset=off:=by rw [Wy9] at h;(cases hg:gs.toList[f]? with|none=>{rw [hg] at h;cases h}|some Wq=>grind)
def yA (hT:eu.ok P T){t:TypeId}{i:TI}(hi:oO P t=some i){fs:pz (TypeId×Nat)}(hk:i.k=.struct fs){f ft off:Nat}(hf:fs[f]?=some (ft,off)){fi:TI}(hfi:aF T ft=some fi)(hs:fi.size≠0)(ad:Addr):(Instr.fieldAt t (.pointer (some ad)) f).run P w=.ok (.pointer (some (ad.add off))) w:=by have ⟨info,d,z,h,b,j,c,l,m,n⟩:=aK hi;obtain ⟨a,fd,o,e,p,q,r,s,u,v⟩:=aK (hT _ _ hfi);rw [c] at hk;obtain ⟨gs,rfl,rfl⟩:=lj hk;obtain ⟨x,g,rfl,rfl⟩:=Jv hf;simp only [Instr.fieldAt,Sem.run_bind,ai b,Result.andThen_ok,g,Instr.sureAddr,Sem.run_pure,fieldPlace,aT e];rw [Sem.run_ite,Ã ω];rfl
def Kg {t:TypeId}{i:TI}(hi:oO P t=some i)(cs:pz C)(off:Nat):(wI i.k=true->(part t (cs.map (C.den β)).toArray off).run P w=.ok (SV.den β (.agg ((cs.drop off).take i.size))) w)/\(∀c,wI i.k=false->cs[off]?=some c->(part t (cs.map (C.den β)).toArray off).run P w=.ok (c.den β) w):=by have ⟨info,d,z,f,b,h,e,j,l,m⟩:=aK hi;refine ⟨λa=>?_,λc a g=>?_⟩;{rw [e] at a;simp only [part,Sem.run_bind,jw b,Result.andThen_ok,a,Ï,aT f,Sem.run_pure,SV.den];grind [List.map_take,List.map_drop]};{rw [e] at a;simp [part,jw b,a,g]}
def PO (hT:eu.ok P T){t:TypeId}{i:TI}(hi:oO P t=some i){fs:pz (TypeId×Nat)}(hk:i.k=.struct fs){f ft off:Nat}(hf:fs[f]?=some (ft,off)){fi:TI}(hfi:aF T ft=some fi){cs:pz C}:(wI fi.k=true->(Instr.field t (SV.den β (.agg cs)) f).run P w=.ok (SV.den β (.agg ((cs.drop off).take fi.size))) w)/\(∀c,wI fi.k=false->cs[off]?=some c->(Instr.field t (SV.den β (.agg cs)) f).run P w=.ok (c.den β) w):=by have ⟨info,d,z,n,g,o,j,p,q,s⟩:=aK hi;rw [j] at hk;obtain ⟨gs,rfl,rfl⟩:=lj hk;obtain ⟨b,l,rfl,rfl⟩:=Jv hf;have e:=Kg (w:=w) (β:=β) (hT _ _ hfi) cs b.offset;have a:∀r,(part b.type (cs.map (C.den β)).toArray b.offset).run P w=r->(Instr.field t (SV.den β (.agg cs)) f).run P w=r:=by{intro r a;simp only [Instr.field,Sem.run_bind,ai g,Result.andThen_ok,l,asAgg,SV.den,Sem.run_pure,a]};exact ⟨λh=>a _ (e.1 h),λc h m=>a _ (e.2 c h m)⟩
def fH (k:IntKind)(x:Int):(asIntOf (.int k x)).run P w=.ok (k,x) w:=rfl
def Cz (hT:eu.ok P T){t:TypeId}{i:TI}(hi:oO P t=some i){x ix:SV}{sc:pz Prop}{v:SV}(h:js T i x ix=.ret sc v)(hsc:∀p∈sc,p):(Instr.indexAt t (x.den β) (ix.den β)).run P w=.ok (v.den β) w/\∀s∈v.ids,s∈x.ids:=by have ⟨info,d,z,J,j,K,q,L,M,N⟩:=aK hi;unfold js at h;split at h;{rename_i k m;split at h;{rename_i e l;rw [q] at l;obtain rfl:=bh l;split at h;{rename_i r he;have ⟨u,y,A,f,B,D,E,g,F,G⟩:=aK (hT _ _ he);split at h;{rename_i n len c;simp only [Q.ret.injEq] at h;obtain ⟨rfl,rfl⟩:=h;have H:=hsc (n.isSome=true) ψ;have b:=hsc (0<=m/\m<(len:Int)) ψ;obtain ⟨p,rfl⟩:=Qd8.1 H;refine ⟨?_,λs a=>a⟩;simp [Instr.indexAt,SV.den,C.den,fH,ai j,b,aT f,ae,g]};{rename_i s o len c;simp only [Q.ret.injEq] at h;obtain ⟨rfl,rfl⟩:=h;have b:=hsc (0<=m/\m<(len:Int)) ψ;refine ⟨?_,λs a=>by simpa [SV.ids,C.ids] using a⟩;simp [Instr.indexAt,SV.den,C.den,fH,ai j,b,aT f,gP,g]};{rename_i s len c;simp only [Q.ret.injEq] at h;obtain ⟨rfl,rfl⟩:=h;have b:=hsc (0<=m/\m<(len:Int)) ψ;have O:=hsc (len<=c) ψ;refine ⟨?_,λs a=>by simpa [SV.ids,C.ids] using a⟩;have I:mA (β s) c=some ⟨β s,0,none⟩:=by{unfold mA;rw [Ã ω]};simp [Instr.indexAt,SV.den,C.den,fH,ai j,b,aT f,gP,g,I]};{cases h}};{cases h}};{rename_i len e l;rw [q] at l;obtain rfl:=qi l;split at h;{rename_i r he;have ⟨u,y,A,f,B,D,E,g,F,G⟩:=aK (hT _ _ he);split at h;{rename_i s o;simp only [Q.ret.injEq] at h;obtain ⟨rfl,rfl⟩:=h;have b:=hsc (0<=m/\m<(len:Int)) ψ;refine ⟨?_,λs a=>by simpa [SV.ids,C.ids] using a⟩;simp [Instr.indexAt,Instr.sureAddr,SV.den,C.den,fH,ai j,b,aT f,gP,g]};{rename_i n;simp only [Q.ret.injEq] at h;obtain ⟨rfl,rfl⟩:=h;obtain ⟨p,rfl⟩:=Qd8.1 (hsc (n.isSome=true) ψ);refine ⟨?_,λs a=>a⟩;simp [Instr.indexAt,Instr.sureAddr,SV.den,C.den,fH,ai j,(hsc (0<=m/\m<(len:Int)) ψ),aT f,ae,g]};{cases h}};{cases h}};{cases h}};{cases h}
def Pj {k:IntKind}{x:Int}{y:Nat}(code:BoundsCode)(h:0<=x/\x<=(y:Int)):(Instr.sliceBound (.int k x) y code).run P w=.ok x.toNat w:=by simp [Instr.sliceBound,fH,h]
def jW {len c:Nat}{lo hi mx:Option SV}{sc:pz Prop}{l:Option Nat}{h m:Nat}(hq:rL len c lo hi mx=some (sc,l,h,m))(hsc:∀p∈sc,p):(Instr.sliceBounds true len c (lo.map (SV.den β)) (hi.map (SV.den β)) (mx.map (SV.den β))).run P w=.ok (l.getD 0,h,m) w:=by
 unfold rL at hq
 cases ht:Xl c mx with
 | none=>rw [ht] at hq;cases hq
 | some t=>
  obtain ⟨g,a⟩:=t;rw [ht] at hq;dsimp only at hq
  cases hh:Ug len a hi mx with
  | none=>rw [hh] at hq;cases hq
  | some t=>
   obtain ⟨i,b⟩:=t;rw [hh] at hq;dsimp only at hq
   cases hl:qLow b lo with
   | none=>rw [hl] at hq;cases hq
   | some t=>
    obtain ⟨j,f⟩:=t;rw [hl] at hq;simp only [ý,ő] at hq;obtain ⟨rfl,rfl,rfl,rfl⟩:=hq
    have hm:((mx=none/\a=c)\/∃k x,mx=some (.c (.v (.int k x)))/\a=x.toNat/\(0<=x/\x<=(c:Int))):=by unfold Xl at ht;split at ht;{simp only [ý,ő] at ht;exact .inl ⟨rfl,ht.2.symm⟩};{rename_i k x;simp only [ý,ő] at ht;obtain ⟨rfl,rfl⟩:=ht;exact .inr ⟨k,x,rfl,rfl,hsc _ ψ⟩};{cases ht}
    have d:((hi=none/\mx=none/\b=len)\/∃k x,hi=some (.c (.v (.int k x)))/\b=x.toNat/\(0<=x/\x<=(a:Int))):=by unfold Ug at hh;split at hh;{rename_i k x;simp only [ý,ő] at hh;obtain ⟨rfl,rfl⟩:=hh;exact .inr ⟨k,x,rfl,rfl,hsc _ ψ⟩};{simp only [ý,ő] at hh;exact .inl ⟨rfl,rfl,hh.2.symm⟩};{cases hh}
    have e:((lo=none/\f=none)\/∃k x,lo=some (.c (.v (.int k x)))/\f=some x.toNat/\(0<=x/\x<=(b:Int))):=by unfold qLow at hl;split at hl;{simp only [ý,ő] at hl;exact .inl ⟨rfl,hl.2.symm⟩};{rename_i k x;simp only [ý,ő] at hl;obtain ⟨rfl,rfl⟩:=hl;exact .inr ⟨k,x,rfl,rfl,hsc _ ψ⟩};{cases hl}
    clear ht hh hl hsc
    rcases hm with ⟨rfl,rfl⟩|⟨n,o,rfl,rfl,q⟩<;>rcases d with ⟨rfl,hx,rfl⟩|⟨k2,x2,rfl,rfl,b2⟩<;>rcases e with ⟨rfl,rfl⟩|⟨k3,x3,rfl,rfl,b3⟩ <;>
     (try cases hx) <;>
     simp only [Instr.sliceBounds,Option.map_none,Wk3,SV.den,C.den,Sem.run_bind,Sem.run_pure,Result.andThen_ok,Wq0,Qh8,Option.isSome_none,Option.isSome_some,Ï,ň,Ð] <;>
     (repeat (rw [Pj _ (by assumption)];simp only [Result.andThen_ok]))
def ML (hT:eu.ok P T){t:TypeId}{i:TI}(hi:oO P t=some i){e:TypeId}(hk:i.k=.slice e){ei:TI}(he:aF T e=some ei){x:SV}{lo hi' mx:Option SV}{sc:pz Prop}{v:SV}(h:xJ ei.size x lo hi' mx=.ret sc v)(hsc:∀p∈sc,p):(Instr.sliceAt t (x.den β) (lo.map (SV.den β)) (hi'.map (SV.den β)) (mx.map (SV.den β))).run P w=.ok (v.den β) w/\∀s∈v.ids,s∈x.ids:=by have ⟨info,d,z,y,j,A,u,B,D,E⟩:=aK hi;have ⟨F,G,H,n,I,J,K,r,L,M⟩:=aK (hT _ _ he);rw [u] at hk;obtain rfl:=bh hk;have a:∀p:OA,p.map (λx=>x.add 0)=p:=by{intro p;cases p<;>simp [Addr.add]};unfold xJ at h;split at h;{rename_i N len c;split at h;{rename_i f q m b;simp only [Q.ret.injEq] at h;obtain ⟨rfl,rfl⟩:=h;have:=jW (P:=P) (w:=w) (β:=β) b hsc;refine ⟨?_,λs g=>g⟩;simp only [Instr.sliceAt,Instr.slice,SV.den,C.den,Sem.run_bind,ai j,Result.andThen_ok,this,aT n,Sem.run_pure,Wq0,Ō,Wk4,a,ite_self]};{rename_i f l q m b;simp only [Q.ret.injEq] at h;obtain ⟨rfl,rfl⟩:=h;have:=jW (P:=P) (w:=w) (β:=β) b hsc;refine ⟨?_,λs g=>g⟩;simp only [Instr.sliceAt,Instr.slice,SV.den,C.den,Sem.run_bind,ai j,Result.andThen_ok,this,aT n,Sem.run_pure,Qh8,r];rfl};{cases h}};{rename_i s o len c;split at h;{rename_i f q m b;simp only [Q.ret.injEq] at h;obtain ⟨rfl,rfl⟩:=h;have:=jW (P:=P) (w:=w) (β:=β) b hsc;refine ⟨?_,λs g=>by simpa [SV.ids,C.ids] using g⟩;simp only [Instr.sliceAt,Instr.slice,SV.den,C.den,Sem.run_bind,ai j,Result.andThen_ok,this,aT n,Sem.run_pure,Wq0,Ō,Wk4,a,ite_self]};{rename_i f l q m b;simp only [Q.ret.injEq] at h;obtain ⟨rfl,rfl⟩:=h;have:=jW (P:=P) (w:=w) (β:=β) b hsc;refine ⟨?_,λs g=>by simpa [SV.ids,C.ids] using g⟩;simp only [Instr.sliceAt,Instr.slice,SV.den,C.den,Sem.run_bind,ai j,Result.andThen_ok,this,aT n,Sem.run_pure,Qh8,r];congr 2;unfold HP;split<;>simp [gP]};{cases h}};{rename_i s len c;split at h;{split at h;{rename_i f q m b;simp only [Q.ret.injEq] at h;obtain ⟨rfl,rfl⟩:=h;have hm:m=c:=by{unfold rL at b;simp only [Xl] at b;grind};have:=jW (P:=P) (w:=w) (β:=β) b hsc;refine ⟨?_,λs g=>by simpa [SV.ids,C.ids] using g⟩;simp only [Instr.sliceAt,Instr.slice,SV.den,C.den,Sem.run_bind,ai j,Result.andThen_ok,this,aT n,Sem.run_pure,Wq0,Ō,Wk4,a,ite_self,hm]};{cases h}};{cases h}};{cases h}
end
section
variable {P:Program} {T:eu} {n:Nat} {V0:Ó} {bQ:Lt} {β0:Nat->Nat} {st:St} {β:Nat->Nat} {a:Act} {w:World} {V:Ó}
theorem fD {s:Sem un}{v:un}{w':World}(h:s.run P w=.ok v w'):(do pure (Next.value (<-s)):Sem Next).run P w=.ok (.value v) w':=by simp [h]
def run_u {s:Sem Unit}{w':World}(h:s.run P w=.ok () w'):(do s;pure Next.skip:Sem Next).run P w=.ok .skip w':=by simp [h]
def xl {f:Int->Int->Int}{k:IntKind}{g:un->un->Sem un}(hg:∀x y k',(g (.int k x) (.int k' y))=pure (.int k (f x y))):∀(r:pz SV)(x m:Int),Ĩ f k x r=some m ->((r.map (SV.den β)).foldlM g (.int k x)).run P w=.ok (.int k m) w
 | [],x,m,h=>by simp only [Ĩ,ý] at h;subst h;rfl
 | y::r,x,m,h=>by
  unfold Ĩ at h;split at h
  ·rename_i e;cases e
  ·rename_i k' b r' e;simp only [ĵ] at e;obtain ⟨rfl,rfl⟩:=e;split at h
   ·simp only [Ļ,List.foldlM_cons,SV.den,C.den,hg,pure_bind];exact xl hg r _ m h
   ·cases h
  ·cases h
def OU:∀{cs:pz C} {l:pz (OA×Nat×Nat)} {k:Nat},OT cs=some l->k<l.length->cs[k]?=some (.v (.slice (l.getD k (none,0,0)).1 (l.getD k (none,0,0)).2.1 (l.getD k (none,0,0)).2.2))
 | [],l,k,h,hk=>by cases h;cases hk
 | c::r,l,k,h,hk=>by
  unfold OT at h;split at h
  ·cases ‹_=[]›
  ·rename_i p n d r' e;cases e;split at h
   ·rename_i l' hl';cases h
    cases k with
    | zero=>rfl
    | succ k=>simpa using OU hl' (by simpa using hk)
   ·cases h
  ·cases h
def yw {d:TypeDesc}(h:mU d=.str):d=.string:=by cases d<;>simp_all [mU]
def HD {b:Builtin}{xs:pz SV}{t:TypeId}{ts:pz TypeId}{ty:TypeId}{cs:Array md}{i:TI}(hi:oO P t=some i){sc:pz Prop}{v:SV}(h:nP b i.k xs=.ret sc v):(builtin b (t::ts).toArray ty cs (xs.map (SV.den β)).toArray).run P w=.ok (.value (v.den β)) w/\v.ids=[]:=by have ⟨info,d,z,u,l,A,n,B,D,E⟩:=aK hi;unfold nP at h;split at h;{cases h};{rename_i x r;split at h;{split at h;{rename_i e p m c j;rw [n] at j;obtain rfl:=bh j;simp only [Q.ret.injEq] at h;obtain ⟨rfl,rfl⟩:=h;refine ⟨?_,rfl⟩;simp [builtin,Builtin.len_,ai l,SV.den,C.den,goInt]};{rename_i e s o m c j;rw [n] at j;obtain rfl:=bh j;simp only [Q.ret.injEq] at h;obtain ⟨rfl,rfl⟩:=h;refine ⟨?_,rfl⟩;simp [builtin,Builtin.len_,ai l,SV.den,C.den,goInt]};{rename_i e s m c j;rw [n] at j;obtain rfl:=bh j;simp only [Q.ret.injEq] at h;obtain ⟨rfl,rfl⟩:=h;refine ⟨?_,rfl⟩;simp [builtin,Builtin.len_,ai l,SV.den,C.den,goInt]};{rename_i s j;rw [n] at j;obtain rfl:=yw j;simp only [Q.ret.injEq] at h;obtain ⟨rfl,rfl⟩:=h;refine ⟨?_,rfl⟩;simp [builtin,Builtin.len_,ai l,SV.den,C.den,goInt]};{cases h}};{split at h;{rename_i e p m c j;rw [n] at j;obtain rfl:=bh j;simp only [Q.ret.injEq] at h;obtain ⟨rfl,rfl⟩:=h;refine ⟨?_,rfl⟩;simp [builtin,Builtin.cap_,ai l,SV.den,C.den,goInt]};{rename_i e s o m c j;rw [n] at j;obtain rfl:=bh j;simp only [Q.ret.injEq] at h;obtain ⟨rfl,rfl⟩:=h;refine ⟨?_,rfl⟩;simp [builtin,Builtin.cap_,ai l,SV.den,C.den,goInt]};{rename_i e s m c j;rw [n] at j;obtain rfl:=bh j;simp only [Q.ret.injEq] at h;obtain ⟨rfl,rfl⟩:=h;refine ⟨?_,rfl⟩;simp [builtin,Builtin.cap_,ai l,SV.den,C.den,goInt]};{cases h}};{split at h;{rename_i k a;split at h;{rename_i m hm;simp only [Q.ret.injEq] at h;obtain ⟨rfl,rfl⟩:=h;refine ⟨?_,rfl⟩;have:=xl (P:=P) (w:=w) (β:=β) (f:=cQ) (k:=k) (g:=Builtin.min2) (λx y q=>by simp [Builtin.min2,cQ]) r a m hm;simp [builtin,Builtin.min_,SV.den,C.den] at this ⊢;rw [this];rfl};{cases h}};{cases h}};{split at h;{rename_i k a;split at h;{rename_i m hm;simp only [Q.ret.injEq] at h;obtain ⟨rfl,rfl⟩:=h;refine ⟨?_,rfl⟩;have:=xl (P:=P) (w:=w) (β:=β) (f:=cw) (k:=k) (g:=Builtin.max2) (λx y q=>by simp [Builtin.max2,cw]) r a m hm;simp [builtin,Builtin.max_,SV.den,C.den] at this ⊢;rw [this];rfl};{cases h}};{cases h}};{cases h}}
def Sw {x:md×pz C}{y:SV}(h:wZ x=some y):kz β x=y.den β/\∀s∈y.ids,s∈x.2.flatMap C.ids:=by
 obtain ⟨b,cs⟩:=x
 cases b with
 | true=>simp only [wZ,ý] at h;subst h;exact ⟨rfl,λs a=>a⟩
 | false=>
  match cs,h with
  | [],h=>simp [wZ] at h
  | [c],h=>simp only [wZ,ý] at h;subst h;exact ⟨rfl,λs a=>by simpa [SV.ids] using a⟩
  | _::_::_,h=>simp [wZ] at h
def yM:∀(xs:pz SV)(ss:pz Nat),Cw xs=some ss->xs.map (SV.den β)=(ss.map λs=>Value.pointer (some ⟨β s,0,none⟩))/\∀s∈ss,∃x∈xs,s∈x.ids
 | [],ss,h=>by simp only [Cw,ý] at h;subst h;exact ⟨rfl,λs hs=>by cases hs⟩
 | x::r,ss,h=>by
  unfold Cw at h;split at h
  ·rename_i e;cases e
  ·rename_i s r' e;simp only [ĵ] at e;obtain ⟨rfl,rfl⟩:=e;split at h
   ·rename_i l b;simp only [ý] at h;subst h;have ⟨d,g⟩:=yM r l b;refine ⟨by simp [d,SV.den,C.den],λf a=>?_⟩;rcases å.1 a with rfl|a
    ·exact ⟨.c (.ptr f 0),ψ,by simp [SV.ids,C.ids]⟩
    grind
   ·cases h
  ·cases h
def Co (hM:Ü n V0 bQ β0 st β a w V){x:Option Operand}{v:Option SV}(h:Hu st.bG x=some v):x.map a.eval=v.map (SV.den β):=by (cases x with|none=>{simp only [Hu,ý] at h;subst h;rfl}|some o=>{simp only [Hu] at h;grind [hM.eval]})
def rG {x y:SV}(hx:Č st x)(h:∀s∈y.ids,s∈x.ids):Č st y:=λs a=>hx s (h s a)
theorem oW {bx:Nat->Option aX}{t:TypeId}{x:SV}:oV T bx t x=.fail\/∃sc s b,oV T bx t x=.zN sc s b:=by
 unfold oV;split<;>(try split)<;>(try split)<;>(try split)<;>(try split)<;>(try split)<;>first|exact .inl rfl|exact .inr ⟨_,_,_,rfl⟩
def MJ {bx:Nat->Option aX}{t:TypeId}{x:SV}{sc:pz Prop}{v:SV}(h:oV T bx t x=.ret sc v):False:=by grind [oW]
def Kk {bx:Nat->Option aX}{e:TypeId}{ei:TI}{b x:SV}{sc:pz Prop}{v:SV}(h:di bx e ei b x=.ret sc v):False:=by unfold di at h;grind
def QE (hT:eu.ok P T)(hM:Ü n V0 bQ β0 st β a w V){o:Oper}{sc:pz Prop}{v:SV}(h:aU T st.bG st.boxes o.op=.ret sc v)(hsc:∀p∈sc,p):(execOp a.eval o).run P w=.ok (.value (v.den β)) w/\Č st v:=by unfold aU at h;split at h;(case h_1 op x hop=>split at h;{rename_i y hy;simp only [Q.ret.injEq] at h;obtain ⟨rfl,rfl⟩:=h;refine ⟨?_,hM.live hy⟩;simp only [execOp,hop,hM.eval hy];rfl};{cases h});(case h_2 op x hop=>split at h;{rename_i y hy;simp only [Q.ret.injEq] at h;obtain ⟨rfl,rfl⟩:=h;refine ⟨?_,hM.live hy⟩;simp only [execOp,hop,hM.eval hy];rfl};{cases h});(case h_3 op c x y hop=>split at h;{rename_i hc;split at h;{rename_i z hz;simp only [Q.ret.injEq] at h;obtain ⟨rfl,rfl⟩:=h;refine ⟨?_,hM.live hz⟩;simp [execOp,hop,hM.eval hz,hM.eval hc,SV.den,C.den,asBool]};{cases h}};{rename_i hc;split at h;{rename_i z hz;simp only [Q.ret.injEq] at h;obtain ⟨rfl,rfl⟩:=h;refine ⟨?_,hM.live hz⟩;simp [execOp,hop,hM.eval hz,hM.eval hc,SV.den,C.den,asBool]};{cases h}};{cases h});(case h_4=>split at h<;>cases h);(case h_5=>split at h;{split at h<;>cases h};{cases h});(case h_6 op t parts hop=>split at h;{rename_i i ps hi hps;have hi:=hT _ _ hi;split at h;{rename_i fs hk;split at h;{rename_i pl hpl;split at h;{rename_i cs hcs;simp only [Q.ret.injEq] at h;obtain ⟨rfl,rfl⟩:=h;have ⟨h1,h2⟩:=GH hT hM hi hk hps hpl hcs hsc;refine ⟨?_,h2⟩;simp only [execOp,hop];exact fD h1};{cases h}};{cases h}};{rename_i m e hk;split at h;{rename_i ei Jz;split at h;{rename_i cs hcs;simp only [Q.ret.injEq] at h;obtain ⟨rfl,rfl⟩:=h;have ⟨h1,h2⟩:=IV hT hM hi hk hps Jz hcs hsc;refine ⟨?_,h2⟩;simp only [execOp,hop];exact fD h1};{cases h}};{cases h}};{cases h}};{cases h});(case h_7=>split at h;{split at h;{split at h;{split at h;{split at h<;>cases h};{cases h}};{cases h}};{cases h}};{cases h});(case h_8 op t x hop=>split at h;{rename_i i y hi hy;have ⟨h1,h2⟩:=F7 hM (hT _ _ hi) h;refine ⟨?_,h2⟩;simp only [execOp,hop,hM.eval hy];exact fD h1};{cases h});(case h_9=>split at h;{unfold jt at h;split at h;{split at h;{split at h;{split at h<;>cases h};{split at h<;>cases h};{split at h;{cases h};{split at h<;>cases h}};{cases h}};{cases h}};{cases h}};{cases h});(case h_10 op x hop=>split at h;{rename_i s o hx;simp only [Q.ret.injEq] at h;obtain ⟨rfl,rfl⟩:=h;refine ⟨?_,hM.live hx⟩;simp [execOp,hop,hM.eval hx,SV.den,C.den]};{rename_i p hx;simp only [Q.ret.injEq] at h;obtain ⟨rfl,rfl⟩:=h;obtain ⟨ad,rfl⟩:=Qd8.1 (hsc (p.isSome=true) ψ);refine ⟨?_,hM.live hx⟩;simp [execOp,hop,hM.eval hx,SV.den,C.den]};{cases h});(case h_11 op bop xt x y yt hop=>split at h;{rename_i p q hp hq;have key:(q=.v .nilIface->∃c,y=.const c)->HC T bop xt p q=.ret sc v->(execOp a.eval o).run P w=.ok (.value (v.den β)) w/\Č st v:=by{intro hc h;have ⟨h1,h2⟩:=Uf (P:=P) (w:=w) (β:=β) hT (ox:=x) (oy:=y) h hsc hc;refine ⟨?_,cz h2⟩;simp only [execOp,hop,hM.eval hp,hM.eval hq];exact fD h1};split at h;{split at h;{exact key (λ_=>⟨_,rfl⟩) h};{cases h}};{rename_i hne;exact key (λe=>Å e hne) h}};{cases h});(case h_12 op t x hop=>split at h;{rename_i hx;simp only [Q.ret.injEq] at h;obtain ⟨rfl,rfl⟩:=h;refine ⟨?_,cz rfl⟩;simp [execOp,hop,hM.eval hx,SV.den,C.den,Op.unary]};{rename_i hx;simp only [Q.ret.injEq] at h;obtain ⟨rfl,rfl⟩:=h;refine ⟨?_,cz rfl⟩;simp [execOp,hop,hM.eval hx,SV.den,C.den,Op.unary]};{rename_i b hx;simp only [Q.ret.injEq] at h;obtain ⟨rfl,rfl⟩:=h;refine ⟨?_,cz rfl⟩;simp [execOp,hop,hM.eval hx,SV.den,C.den,Op.unary]};{cases h});(case h_13 op t x hop=>split at h;{rename_i k m hx;simp only [Q.ret.injEq] at h;obtain ⟨rfl,rfl⟩:=h;refine ⟨?_,cz rfl⟩;simp [execOp,hop,hM.eval hx,SV.den,C.den,Op.unary,Op.intBits,cg]};{cases h});(case h_14 op t x hop=>split at h;{rename_i k m hx;simp only [Q.ret.injEq] at h;obtain ⟨rfl,rfl⟩:=h;refine ⟨?_,cz rfl⟩;simp [execOp,hop,hM.eval hx,SV.den,C.den,Op.unary,Op.intArith]};{cases h});(case h_15 op src dst x hop=>split at h;{rename_i i0 i k m hi0 hi hx;obtain ⟨YD,d0,z0,g1,g2,-⟩:=aK (hT _ _ hi0);have ⟨info,d,z,h1,h2,h3,h4,h5,h6,h7⟩:=aK (hT _ _ hi);split at h;{rename_i k' hk;rw [h4] at hk;obtain rfl:=Jr hk;simp only [Q.ret.injEq] at h;obtain ⟨rfl,rfl⟩:=h;refine ⟨?_,cz rfl⟩;simp only [execOp,hop,hM.eval hx];refine fD ?_;simp only [convert,Sem.run_bind,ai g2,ai h2,Result.andThen_ok,SV.den,C.den];cases d0<;>rfl};{cases h}};{cases h});(case h_16 op f first caps hop=>split at h;{rename_i hf;split at h;{rename_i xs hxs;split at h;{rename_i ss hss;simp only [Q.ret.injEq] at h;obtain ⟨rfl,rfl⟩:=h;have ⟨h1,h2⟩:=iB hM _ _ hxs;have ⟨h3,h4⟩:=yM (β:=β) _ _ hss;refine ⟨?_,λs hs=>?_⟩;{have e1:first=#[]:=by{apply Ŋ;exact hf};have e2:caps.map a.eval=(ss.map λs=>Value.pointer (some ⟨β s,0,none⟩)).toArray:=by{apply Ŋ;rw [Qf9,h1,h3]};simp [execOp,hop,Instr.makeFunc,e1,e2,SV.den,C.den]};{have ⟨x,hx,hs'⟩:=h4 s hs;exact h2 x hx s hs'}};{cases h}};{cases h}};{cases h});(case h_17=>split at h;{unfold F8 at h;split at h;{split at h;{split at h;{split at h;{split at h<;>cases h};{cases h}};{cases h}};{cases h}};{cases h}};{cases h});(case h_18 op t x lo hi mx hop=>split at h;{rename_i i xv l h' m hi' hx hl hh hm;split at h;{rename_i e hk;split at h;{rename_i ei Jz;have ⟨h1,h2⟩:=ML (P:=P) (w:=w) (β:=β) hT (hT _ _ hi') hk Jz h hsc;refine ⟨?_,rG (hM.live hx) h2⟩;simp only [execOp,hop,hM.eval hx,Co hM hl,Co hM hh,Co hM hm];exact fD h1};{cases h}};{cases h}};{cases h});(case h_19 op t x f hop=>split at h;{rename_i i xv hi hx;have hi:=hT _ _ hi;split at h;{rename_i fs hk;split at h;{rename_i ft off hf;split at h;{rename_i fi hfi;split at h;{cases h};{rename_i hs;have hs:fi.size≠0:=λe=>hs (beq_eq.2 e);split at h;{rename_i s o';simp only [Q.ret.injEq] at h;obtain ⟨rfl,rfl⟩:=h;have:=yA (w:=w) hT hi hk hf hfi hs ⟨β s,o',none⟩;rw [gP] at this;refine ⟨?_,rG (hM.live hx) (λs hs=>by simpa [SV.ids,C.ids] using hs)⟩;simp only [execOp,hop,hM.eval hx];exact fD this};{rename_i p;simp only [Q.ret.injEq] at h;obtain ⟨rfl,rfl⟩:=h;obtain ⟨ad,rfl⟩:=Qd8.1 (hsc (p.isSome=true) ψ);have:=yA (w:=w) hT hi hk hf hfi hs ad;refine ⟨?_,cz rfl⟩;simp only [execOp,hop,hM.eval hx];exact fD this};{cases h}}};{cases h}};{cases h}};{cases h}};{cases h});(case h_20 op t x f hop=>split at h;{rename_i i cs hi hx;have hi:=hT _ _ hi;split at h;{rename_i fs hk;split at h;{rename_i ft off hf;split at h;{rename_i fi hfi;have ⟨g1,g2⟩:=PO (P:=P) (w:=w) (β:=β) hT hi hk hf hfi (cs:=cs);have hagg:wI fi.k=true->Q.ret [] (.agg ((cs.drop off).take fi.size))=.ret sc v->(execOp a.eval o).run P w=.ok (.value (v.den β)) w/\Č st v:=by{intro hk' h;simp only [Q.ret.injEq] at h;obtain ⟨rfl,rfl⟩:=h;refine ⟨?_,rG (hM.live hx) λs hs=>?_⟩;{simp only [execOp,hop,hM.eval hx];exact fD (g1 hk')};{have ⟨c,hc,hs⟩:=Đ.1 hs;exact va (Qg5 (Qn5 hc)) hs}};split at h;{rename_i hk';exact hagg (by rw [hk'];rfl) h};{rename_i hk';exact hagg (by rw [hk'];rfl) h};{rename_i hk1 hk2;have hk':wI fi.k=false:=by{(cases hik:fi.k<;>first|rfl|exact Å hik (hk1 _)|exact Å hik (hk2 _ _))};split at h;{rename_i c hc;simp only [Q.ret.injEq] at h;obtain ⟨rfl,rfl⟩:=h;refine ⟨?_,rG (hM.live hx) λs hs=>?_⟩;{simp only [execOp,hop,hM.eval hx];exact fD (g2 c hk' hc)};{exact va (Qb3 hc) hs}};{cases h}}};{cases h}};{cases h}};{cases h}};{cases h});(case h_21 op t x ix hop=>split at h;{rename_i i xv iv hi hx hix;have ⟨h1,h2⟩:=Cz (P:=P) (w:=w) (β:=β) hT (hT _ _ hi) h hsc;refine ⟨?_,rG (hM.live hx) h2⟩;simp only [execOp,hop,hM.eval hx,hM.eval hix];exact fD h1};{cases h});(case h_22 op x j hop=>split at h;{rename_i xs hx;split at h;{rename_i y hy;split at h;{rename_i z hz;simp only [Q.ret.injEq] at h;obtain ⟨rfl,rfl⟩:=h;have ⟨h1,h2⟩:=Sw (β:=β) hz;refine ⟨?_,rG (hM.live hx) λs hs=>Đ.2 ⟨y,Qb3 hy,h2 s hs⟩⟩;have:(xs.map (kz β))[j]?=some (z.den β):=by{rw [Wy9,hy];simp [h1]};simp [execOp,hop,hM.eval hx,SV.den,Instr.extract,hy,h1]};{cases h}};{cases h}};{cases h});(case h_23 op c hop=>split at h;{split at h;{split at h;{split at h;{split at h;{exact (Kk h).elim};{cases h}};{cases h}};{cases h}};{cases h}};{split at h;{exact (MJ h).elim};{cases h}};{rename_i b hb hb2 hc;split at h;{rename_i xs t ts hxs hts;split at h;{rename_i i hi;have ⟨h1,h2⟩:=iB hM _ _ hxs;have e1:c.argTypes=(t::ts).toArray:=by{apply Ŋ;exact hts};have e2:c.args.map a.eval=(xs.map (SV.den β)).toArray:=by{apply Ŋ;rw [Qf9];exact h1};have ⟨k1,k2⟩:=HD (P:=P) (w:=w) (β:=β) (ts:=ts) (ty:=o.type) (cs:=c.args.map λ|.const _=>true|_=>false) (hT _ _ hi) h;refine ⟨?_,cz k2⟩;simp only [execOp,hop,resolve,hc,pure_bind,invoke,e1,e2];exact k1};{cases h}};{cases h}};{cases h});(case h_24 op t x ix hop=>split at h;{rename_i i s k m hi hx hix;split at h;{rename_i hk;have ⟨info,d,z,h1,h2,h3,h4,h5,h6,h7⟩:=aK (hT _ _ hi);rw [h4] at hk;obtain rfl:=yw hk;simp only [Q.ret.injEq] at h;obtain ⟨rfl,rfl⟩:=h;have hb:=hsc _ (ö.2 rfl);refine ⟨?_,cz rfl⟩;have hlt:m.toNat<s.size:=ω;have e:s.data.toList.getD m.toNat 0=s[m.toNat]'hlt:=by{have:s.data.toList[m.toNat]?=some (s[m.toNat]'hlt):=by{rw [Array.getElem?_toList];exact Array.getElem?_eq_getElem (by simpa using hlt)};rw [ġ,this];rfl};simp only [execOp,hop,hM.eval hx,hM.eval hix,SV.den,C.den];grind [fD,run_index_string]};{cases h}};{rename_i i cs k m hi hx hix;unfold nQ at h;split at h;{rename_i n e hk;split at h;{rename_i ei l Jz hl;split at h;{rename_i e2 hek;split at h;{rename_i hb;rw [ċ] at hb;simp only [Q.ret.injEq] at h;obtain ⟨rfl,rfl⟩:=h;have hm:=hsc _ (ö.2 rfl);have ⟨info,d,z,h1,h2,h3,h4,h5,h6,h7⟩:=aK (hT _ _ hi);rw [h4] at hk;obtain rfl:=qi hk;have ⟨jS,ed,ez,e1,e2,e3,e4,e5,e6,e7⟩:=aK (hT _ _ Jz);refine ⟨?_,cz rfl⟩;have b2:=beq_eq.1 hb.2;simp only [execOp,hop,hM.eval hx,hM.eval hix];refine fD ?_;have es:m.toNat*jS.size=m.toNat:=by{rw [<-e5,(beq_eq.1 hb.1),Ē]};simp only [Instr.index,SV.den,C.den,fH,Sem.run_bind,Result.andThen_ok,ai h2,Sem.run_ite,Ä hm,aT e1,es];exact ((Kg (w:=w) (β:=β) (hT _ _ Jz) cs m.toNat).2 _ (by rw [hek];rfl) (OU hl (show m.toNat<l.length by omega)))};{cases h}};{cases h}};{cases h}};{cases h}};{cases h});(case h_25 op t x hop=>split at h;{rename_i i y hi hx;have ⟨info,d,z,h1,h2,h3,h4,h5,h6,h7⟩:=aK (hT _ _ hi);unfold Cy at h;split at h;{cases h};{rename_i hk;split at h;{rename_i lA htup;simp only [Q.ret.injEq] at h;obtain ⟨rfl,rfl⟩:=h;refine ⟨?_,cz rfl⟩;simp only [execOp,hop,hM.eval hx];refine fD ?_;have hd:∀ms,d≠.interface ms:=λms e=>by{rw [e] at h4;exact hk h4};have e2:y.den β=y.den λ_=>0:=SV.b_ λs hs=>by{rw [lA] at hs;cases hs};show (Instr.makeInterface t (y.den β)).run P w=.ok (.iface t (y.den λ_=>0)) w;rw [e2];generalize y.den (λ_=>0)=u;simp only [Instr.makeInterface,Sem.run_bind,ai h2,Result.andThen_ok];(cases d<;>first|rfl|exact Å rfl (hd _))};{cases h}}};{cases h});(case h_26=>cases h)
end
section
variable {P:Program} {T:eu} {n:Nat} {V0:Ó} {bQ:Lt} {β0:Nat->Nat} {st:St} {β:Nat->Nat} {a:Act} {w:World} {V:Ó}
def QD (hT:eu.ok P T)(hM:Ü n V0 bQ β0 st β a w V){o:Oper}{sc:pz Prop}{b:aX}{x:Nat->SV}(h:aU T st.bG st.boxes o.op=.new sc b x)(hsc:∀p∈sc,p):∃v,(execOp a.eval o).run P w=.ok (.value v) (w.alloc (b.obj β))/\(∀d,v=(x d).den (cU β d w.heap.size)/\(x d).ids=[d])/\(∀s∈b.cs.ids,∃b',st.boxes s=some b'):=by have hx:∀d,SV.den (cU β d w.heap.size) (.c (.ptr d 0))=.pointer (some ⟨w.heap.size,0,none⟩):=λd=>by{simp [SV.den,C.den,a_]};have hy:∀d m c,SV.den (cU β d w.heap.size) (.c (.m_ d 0 m c))=.slice (some ⟨w.heap.size,0,none⟩) m c:=λd m c=>by{simp [SV.den,C.den,a_]};unfold aU at h;split at h;(case h_1=>split at h<;>cases h);(case h_2=>split at h<;>cases h);(case h_3=>split at h<;>(try split at h)<;>cases h);(case h_4 op t hop=>split at h;{rename_i i hi;have ⟨info,d,z,h1,h2,h3,h4,h5,h6,h7⟩:=aK (hT _ _ hi);simp only [Q.new.injEq] at h;obtain ⟨rfl,rfl,rfl⟩:=h;have ⟨z1,z2⟩:=fV (β:=β) h7;refine ⟨.pointer (some ⟨w.heap.size,0,none⟩),?_,λd=>⟨(hx d).symm,rfl⟩,λs hs=>by rw [show ã.ids (.lit i.zero)=[] from z2] at hs;cases hs⟩;simp only [execOp,hop];refine fD ?_;simp only [Instr.alloc,Sem.run_bind,kU h1 h3,Result.andThen_ok,newVar,newRow,run_newObj,Sem.run_pure,aX.obj,ã.den,z1];rfl};{cases h});(case h_5 op t y hop=>split at h;{rename_i v hv;split at h;{cases h};{rename_i hnt;simp only [Q.new.injEq] at h;obtain ⟨rfl,rfl,rfl⟩:=h;obtain ⟨c1,-⟩:=SV.wW (β:=β) hnt hsc;refine ⟨.pointer (some ⟨w.heap.size,0,none⟩),?_,λd=>⟨(hx d).symm,rfl⟩,λs hs=>hM.live hv s (SV.wX hnt hs)⟩;simp only [execOp,hop,hM.eval hv];refine fD ?_;simp only [Instr.box,newVar,newRow,Sem.run_bind,run_newObj,Result.andThen_ok,Sem.run_pure,c1,aX.obj,ã.den];rfl}};{cases h});(case h_6=>split at h;{grind};{cases h});(case h_7 op t len parts hop=>split at h;{rename_i i ps hi hps;split at h;{rename_i e hk;split at h;{rename_i ei Jz;split at h;{rename_i hc;simp only [ċ,beq_eq,Qd5] at hc;obtain ⟨⟨c1,c2⟩,c3⟩:=hc;have c3:ei.size≠0:=λe=>by{rw [e] at c3;cases c3};split at h;{rename_i cs hcs;simp only [Q.new.injEq] at h;obtain ⟨rfl,rfl,rfl⟩:=h;have ⟨h1,h2⟩:=Bb hT hM (hT _ _ hi) hk hps Jz (Œ c1) c2 c3 hcs hsc;exact ⟨_,by simp only [execOp,hop];exact fD h1,λd=>⟨(hy d _ _).symm,rfl⟩,h2⟩};{cases h}};{cases h}};{cases h}};{cases h}};{cases h});(case h_8=>split at h;{unfold lJ at h;grind};{cases h});(case h_9=>split at h;{unfold jt at h;grind};{cases h});(case h_10=>split at h<;>cases h);(case h_11=>split at h;{have key:∀{op xt} {p q:C},HC T op xt p q≠.new sc b x:=by{intro op xt p q h;have hi:∀k m m',qu op k m m'≠.new sc b x:=λk m m' h=>by{cases op<;>cases h};have hn:∀neg k,HE neg k p q≠.new sc b x:=λneg k h=>by{unfold HE at h;split at h<;>(try split at h)<;>(try split at h)<;>cases h};unfold HC at h;grind};grind};{cases h});(case h_12=>split at h<;>cases h);(case h_13=>split at h<;>cases h);(case h_14=>split at h<;>cases h);(case h_15=>split at h;{split at h<;>cases h};{cases h});(case h_16=>split at h<;>(try split at h)<;>(try split at h)<;>cases h);(case h_17 op t l c hop=>split at h;{rename_i i lv cv hi hl hc;unfold F8 at h;split at h;{rename_i e hk;split at h;{rename_i ei Jz;split at h;{rename_i k1 m1 k2 m2;split at h;{rename_i zs hzs;split at h;{cases h};{rename_i hcond;simp only [Qp5,beq_eq,Qd5,not_or] at hcond;obtain ⟨⟨g1,g2⟩,g3⟩:=hcond;simp only [Q.new.injEq] at h;obtain ⟨rfl,rfl,rfl⟩:=h;have g3:ei.size=zs.length:=by{rcases hb:Nat.beq ei.size zs.length with _|_;{rw [hb] at g3;exact Å rfl g3};{exact beq_eq.1 hb}};refine ⟨_,?_,λd=>⟨(hy d _ _).symm,rfl⟩,λs hs=>by simp [ã.ids] at hs⟩;simp only [execOp,hop,hM.eval hl,hM.eval hc];exact fD (Ei (P:=P) (w:=w) (β:=β) hT (hT _ _ hi) hk Jz (k1:=k1) (k2:=k2) (l:=m1) (c:=m2) g1 g2 hzs g3 (hsc _ ψ) (hsc _ ψ) (hsc _ ψ))}};{cases h}};{cases h}};{cases h}};{cases h}};{cases h});(case h_18=>split at h;{split at h;{split at h;{unfold xJ at h;split at h<;>(try split at h)<;>(try split at h)<;>cases h};{cases h}};{cases h}};{cases h});(case h_19=>split at h;{grind};{cases h});(case h_20=>split at h;{split at h<;>grind};{cases h});(case h_21=>split at h;{unfold js at h;grind};{cases h});(case h_22=>split at h<;>(try split at h)<;>(try split at h)<;>cases h);(case h_23=>split at h;{split at h;{split at h;{split at h;{split at h;{unfold di at h;grind};{cases h}};{cases h}};{cases h}};{cases h}};{grind [oW]};{split at h;{split at h;{unfold nP at h;grind};{cases h}};{cases h}};{cases h});(case h_24=>split at h;{split at h<;>cases h};{unfold nQ at h;grind};{cases h});(case h_25=>split at h;{unfold Cy at h;split at h;{cases h};{split at h<;>cases h}};{cases h});(case h_26=>cases h)
def eF:Q->Nat
 | .fail=>0|.ret ..=>1|.new ..=>2|.zN ..=>3|.rd ..=>4|.sS ..=>5|.app ..=>6|.xF ..=>6
def uh {op:BinOp}{k:IntKind}{x y:Int}:eF (qu op k x y)<=1:=by cases op<;>exact Ù _
def KI {neg:md}{k:TK}{x y:C}:eF (HE neg k x y)<=1:=by
 unfold HE;split<;>(try split)<;>(try split)<;>first|exact Ù _|exact â _
def sW {i:TI}{cs:pz C}{k:Int}:eF (nQ T i cs k)<=1:=by unfold nQ;split;{split;{split;{(split<;>first|exact Ù _|exact â _)};{exact â _}};{exact â _}};{exact â _}
def vS {op:BinOp}{xt:TypeId}{x y:C}:eF (HC T op xt x y)<=1:=by unfold HC;split;{split;{split;{split;{exact uh};{exact uh};{split;{exact uh};{exact â _}}};{exact â _}};{split;{(split<;>first|exact Ù _|exact â _)};{exact â _}};{split;{exact KI};{exact KI};{exact â _}}};{exact â _}
def C5 {sz:Nat}{x:SV}{lo hi mx:Option SV}:eF (xJ sz x lo hi mx)<=1:=by
 unfold xJ;split<;>(try split)<;>(try split)<;>first|exact Ù _|exact â _
def qP {i:TI}{x ix:SV}:eF (js T i x ix)<=1:=by
 unfold js;split<;>(try split)<;>(try split)<;>(try split)<;>first|exact Ù _|exact â _
def vT {b:Builtin}{k:TK}{xs:pz SV}:eF (nP b k xs)<=1:=by
 unfold nP;split<;>(try split)<;>(try split)<;>(try split)<;>first|exact Ù _|exact â _
def QR {i:TI}{l c:SV}:eF (F8 T i l c)=0\/eF (F8 T i l c)=2:=by
 unfold F8;split<;>(try split)<;>(try split)<;>(try split)<;>(try split)<;>first|exact .inl rfl|exact .inr rfl
theorem C6 {bx:Nat->Option aX}{i:TI}{a x:SV}:eF (jt bx i a x)=0\/eF (jt bx i a x)=3:=by
 unfold jt;split<;>(try split)<;>(try split)<;>(try split)<;>(try split)<;>first|exact .inl rfl|exact .inr rfl
theorem Gp {bx:Nat->Option aX}{i:TI}{x:SV}:eF (lJ bx i x)=0\/eF (lJ bx i x)=1\/eF (lJ bx i x)=4\/eF (lJ bx i x)=5:=by
 unfold lJ;split<;>(try split)<;>(try split)<;>(try split)<;>first|exact .inl rfl|exact .inr (.inl rfl)|exact .inr (.inr (.inl rfl))|exact .inr (.inr (.inr rfl))
def qO {bx:Nat->Option aX}{e:TypeId}{ei:TI}{b x:SV}:eF (di bx e ei b x)=0\/eF (di bx e ei b x)=6:=by unfold di;split;{exact .inl rfl};{split;{exact .inl rfl};{dsimp only;split;{exact .inl rfl};{(split<;>(try split)<;>(try split)<;>first|exact .inl rfl|exact .inr rfl)}}}
theorem C0 {bx:Nat->Option aX}{t:TypeId}{x:SV}:eF (oV T bx t x)=0\/eF (oV T bx t x)=3:=by
 rcases oW (T:=T) (bx:=bx) (t:=t) (x:=x) with e|⟨_,_,_,e⟩<;>rw [e]<;>first|exact .inl rfl|exact .inr rfl
def iC {ρ:Operand->Option SV}{bx:Nat->Option aX}{op:Op}:(eF (aU T ρ bx op)=3->((∃t a x,op=.store t a x)\/∃c,op=.call c/\c.callee=.builtin .clear))/\(eF (aU T ρ bx op)=4\/eF (aU T ρ bx op)=5->∃t a,op=.load t a)/\(eF (aU T ρ bx op)=6->∃c,op=.call c/\c.callee=.builtin .append):=by
 have gC:∀{q:Q},eF q<=1->(eF q=3->((∃t a x,op=.store t a x)\/∃c,op=.call c/\c.callee=.builtin .clear))/\(eF q=4\/eF q=5->∃t a,op=.load t a)/\(eF q=6->∃c,op=.call c/\c.callee=.builtin .append):=χ
 have le2:∀{q:Q},eF q=0\/eF q=2->(eF q=3->((∃t a x,op=.store t a x)\/∃c,op=.call c/\c.callee=.builtin .clear))/\(eF q=4\/eF q=5->∃t a,op=.load t a)/\(eF q=6->∃c,op=.call c/\c.callee=.builtin .append):=by intro q h;exact ⟨ω,ω,ω⟩
 unfold aU;split
 case h_8=>
  split
  ·grind [Gp]
  ·exact gC (â _)
 case h_9=>
  split
  ·grind [C6]
  ·exact gC (â _)
 case h_11=>
  split
  ·split;{split;{exact gC vS};{exact gC (â _)}};{exact gC vS}
  ·exact gC (â _)
 case h_17=>
  split
  ·exact le2 QR
  ·exact gC (â _)
 case h_18=>
  split
  ·split;{split;{exact gC C5};{exact gC (â _)}};{exact gC (â _)}
  ·exact gC (â _)
 case h_21=>
  split
  ·exact gC qP
  ·exact gC (â _)
 case h_23 c=>
  split
  ·rename_i hc;refine ⟨λh=>?_,λh=>?_,λ_=>⟨c,rfl,hc⟩⟩;{exfalso;(split at h<;>(try split at h)<;>(try split at h)<;>(try split at h)<;>first|(rcases qO (bx:=bx) with h'|h'<;>(rw [h'] at h;cases h))|cases h)};{exfalso;(split at h<;>(try split at h)<;>(try split at h)<;>(try split at h)<;>first|(rcases qO (bx:=bx) with h'|h'<;>(rw [h'] at h;rcases h with h|h<;>cases h))|(rcases h with h|h<;>cases h))}
  ·rename_i hc;split;{grind [C0]};{exact gC (â _)}
  ·split;{split;{exact gC vT};{exact gC (â _)}};{exact gC (â _)}
  ·exact gC (â _)
 case h_24=>
  split
  ·split;{exact gC (Ù _)};{exact gC (â _)}
  ·exact gC sW
  ·exact gC (â _)
 case h_25=>
  split
  ·unfold Cy;split;{exact gC (â _)};{split;{exact gC (Ù _)};{exact gC (â _)}}
  ·exact gC (â _)
 all_goals
  first
  | exact gC (â _)
  | ((repeat' split)<;>first|exact gC (â _)|exact gC (Ù _)|exact le2 (.inr rfl))
def MK (hT:eu.ok P T)(hM:Ü n V0 bQ β0 st β a w V){t:TypeId}{x:SV}{sc:pz Prop}{s:Nat}{b:aX}(h:oV T st.boxes t x=.zN sc s b)(hsc:∀p∈sc,p)(ty:TypeId)(cs:Array md):∃w',(builtin .clear #[t] ty cs #[x.den β]).run P w=.ok (.value (.tuple #[])) w'/\Ü n V0 bQ β0 (st.box s b) β a w' V:=by unfold oV at h;split at h;{rename_i i M;split at h;{rename_i e F;split at h;{rename_i r N;split at h;{rename_i q g o k c O;split at h;{rename_i j G H;split at h;{cases h};{rename_i I;simp only [Q.zN.injEq] at h;obtain ⟨rfl,rfl,rfl⟩:=h;simp only [Qp5,beq_eq,Ĥ,not_or,Bool.not_eq_false,ĩ] at I;obtain ⟨⟨c1,J⟩,c3⟩:=I;have ⟨info,d,z,h1,K,h3,R,h5,h6,h7⟩:=aK (hT _ _ M);have ⟨S,ed,A,U,e2,W,e4,X,e6,Y⟩:=aK (hT _ _ N);rw [R] at F;obtain rfl:=bh F;have ⟨L,z2⟩:=fV (β:=β) Y;obtain ⟨d1,-⟩:=gH (β:=β) O;have Z:A.cells.size=S.size:=by{rw [<-L,d1];simp [<-X,J]};have a0:A.cells.toList=q:=by{rw [<-d1,<-L]};have hle:o+k*r.size<=j.length:=hsc _ ψ;have u:∀m,(wC m q).length=m*r.size:=λm=>by{rw [rT,J];simp [List.length_flatten]};have B:∀v∈wC k q,v.oneCell'=true:=λv D=>by{rw [rT] at D;have ⟨l,hl,D⟩:=List.mem_flatten.1 D;grind};have f:=hM.row H dQ;have key:=run_storeCells_at (P:=P) (β g) o G (wC k q) 0 j.toArray w f (by simpa [u] using hle) B;simp only [Ę,u] at key;refine ⟨w.setRow (β g) (j.take o++wC k q++j.drop (o+k*r.size)).toArray,?_,hM.zN H dQ (by intro s' E;simp [ã.ids] at E) (by rw [lN f];rfl) rfl rfl rfl⟩;have y:(Builtin.clear_ #[t] ty #[SV.den β (.c (.m_ g o k c))]).run P w=.ok (.tuple #[]) (w.setRow (β g) (j.take o++wC k q++j.drop (o+k*r.size)).toArray):=by{(cases k with|zero=>{have e0:(j.take o++wC 0 q++j.drop (o+0*r.size)).toArray=j.toArray:=by{rw [rT];simp};rw [e0,setRow_self w (β g) j.toArray G (0,0) f];simp [Builtin.clear_,ai K,SV.den,C.den]}|succ k=>{have ek:(Builtin.zeroCells A.cells (k+1)).toList=wC (k+1) q:=by{grind [Builtin.zeroCells,wK,rT]};simp only [ė] at key ⊢;simp [Builtin.clear_,ai K,SV.den,C.den,(kU U W w),ek,key]})};simp only [builtin];exact fD y}};{cases h}};{cases h}};{cases h}};{cases h}};{cases h}
def QF (hT:eu.ok P T)(hM:Ü n V0 bQ β0 st β a w V){o:Oper}{sc:pz Prop}{s:Nat}{b:aX}(h:aU T st.bG st.boxes o.op=.zN sc s b)(hsc:∀p∈sc,p):∃nx w',(execOp a.eval o).run P w=.ok nx w'/\(nx=.skip\/∃v,nx=.value v)/\Ü n V0 bQ β0 (st.box s b) β a w' V:=by rcases (iC (T:=T) (ρ:=st.bG) (bx:=st.boxes) (op:=o.op)).1 (by rw [h];rfl) with ⟨t,y,x,d⟩|⟨c,d,k⟩;{rw [d] at h;simp only [aU] at h;split at h;{rename_i i C D l m e;have ⟨w',f,q⟩:=MM hM (hT _ _ l) (hM.live e) h hsc;refine ⟨.skip,w',?_,.inl rfl,q⟩;simp only [execOp,d,hM.eval m,hM.eval e];exact run_u f};{cases h}};{obtain ⟨E,args,r⟩:=c;dsimp only at k;subst k;rw [d] at h;simp only [aU] at h;split at h;{rename_i x t g j;obtain ⟨f,-⟩:=iB hM _ _ g;have u:r=#[t]:=by{apply Ŋ;exact j};have z:args.map a.eval=#[x.den β]:=by{apply Ŋ;rw [Qf9];exact f};have ⟨w',A,B⟩:=MK hT hM h hsc o.type (args.map λ|.const _=>true|_=>false);refine ⟨.value (.tuple #[]),w',?_,.inr ⟨_,rfl⟩,B⟩;simp only [execOp,d,resolve,pure_bind,invoke,u,z];exact A};{cases h}}
def Uk (hT:eu.ok P T)(hM:Ü n V0 bQ β0 st β a w V){o:Oper}{p:OA}{sh:AX}(h:aU T st.bG st.boxes o.op=.rd p sh){x:SV}{k:Prop}(hx:x.ids=[])(hs:(∃c,x=.c c/\∃s',sh=.one s')\/∃cs l,x=.agg cs/\sh=.agg l/\cs.length=l.length)(hr:V.Xo p x k):(execOp a.eval o).run P w=.ok (.value (x.den β)) w/\k:=by obtain ⟨t,y,b⟩:=(iC (T:=T) (ρ:=st.bG) (bx:=st.boxes) (op:=o.op)).2.1 (by rw [h];exact .inl rfl);rw [b] at h;simp only [aU] at h;split at h;{rename_i i m d e;unfold lJ at h;split at h;{grind};{split at h;{rename_i f;simp only [Q.rd.injEq] at h;obtain ⟨rfl,rfl⟩:=h;have ⟨g,j⟩:=rd_run hM (hT _ _ d) (beq_eq.1 f) hx hs hr;refine ⟨?_,j⟩;simp only [execOp,b,hM.eval e];exact fD g};{cases h}};{cases h}};{cases h}
def Kl (hT:eu.ok P T)(hM:Ü n V0 bQ β0 st β a w V){o:Oper}{vs:pz un}{of size:Nat}{sh:AX}(h:aU T st.bG st.boxes o.op=.sS vs of size sh){x:SV}(hx:x.ids=[])(hs:(∃c,x=.c c/\∃s',sh=.one s')\/∃cs l,x=.agg cs/\sh=.agg l/\cs.length=l.length)(hr:Xx vs of size x):(execOp a.eval o).run P w=.ok (.value (x.den β)) w:=by obtain ⟨t,y,b⟩:=(iC (T:=T) (ρ:=st.bG) (bx:=st.boxes) (op:=o.op)).2.1 (by rw [h];exact .inr rfl);rw [b] at h;simp only [aU] at h;split at h;{rename_i i m f g;unfold lJ at h;split at h;{split at h;{grind};{rename_i d;simp only [Q.sS.injEq] at h;obtain ⟨rfl,rfl,rfl,rfl⟩:=h;have j:=F9 hM (hT _ _ f) (.inl d) hx hs hr;simp only [execOp,b,hM.eval g];exact fD j};{rename_i d;split at h;{cases h};{rename_i k;simp only [Q.sS.injEq] at h;obtain ⟨rfl,rfl,rfl,rfl⟩:=h;simp only [execOp,b,hM.eval g];exact fD (F9 hM (hT _ _ f) (.inr ⟨d,λe=>k (by rw [e];rfl)⟩) hx hs hr)}};{cases h}};{split at h<;>cases h};{cases h}};{cases h}
end
end Go.Eng
