import Derived.Test.YtapnijmlbakblaaGreatDoorZP2
set_option linter.unusedVariables false
open Go.IntKind (i64 u64 u32)
namespace Go.Eng
variable {P:Program} {T:cI} {n:Nat} {V0:View} {bw:Ds} {β0:Nat->Nat} {st:St} {β:Nat->Nat} {a:Act} {w:World} {V:View}
theorem GU (hT:cI.ok P T)(hM:Mod n V0 bw β0 st β a w V){o:Oper}{sc:List Prop}{b:aP}{x:Nat->SV}(h:aK T st.aY st.boxes o.op=.new sc b x)(hsc:∀p∈sc,p) :
  ∃v,(execOp a.eval o).run P w=.ok (.value v) (w.alloc (b.obj β))/\(∀d,v=(x d).den (bG β d w.heap.size)/\(x d).ids=[d])/\(∀s∈b.cs.ids,∃b',st.boxes s=some b'):=by
 have hx:∀d,SV.den (bG β d w.heap.size) (.c (.ptr d 0))=.pointer (some ⟨w.heap.size,0,none⟩):=fun d=>by simp [SV.den,C.den,aR]
 have hy:∀d m c,SV.den (bG β d w.heap.size) (.c (.gU d 0 m c))=.slice (some ⟨w.heap.size,0,none⟩) m c:=fun d m c=>by simp [SV.den,C.den,aR]
 unfold aK at h;split at h
 case h_1=>split at h<;>cases h
 case h_2=>split at h<;>cases h
 case h_3=>split at h<;>(try split at h)<;>cases h
 case h_4 op t hop=>
  split at h
  ·rename_i i hi;obtain ⟨info,d,z,h1,h2,h3,h4,h5,h6,h7⟩:=aF (hT _ _ hi);simp only [Q.new.injEq] at h;obtain ⟨rfl,rfl,rfl⟩:=h;obtain ⟨z1,z2⟩:=dH (β:=β) h7;refine ⟨.pointer (some ⟨w.heap.size,0,none⟩),?_,fun d=>⟨(hx d).symm,rfl⟩,fun s hs=>by rw [show Cells.ids (.lit i.zero)=[] from z2] at hs;cases hs⟩;simp only [execOp,hop];refine dk ?_;simp only [Instr.alloc,Sem.run_bind,iw h1 h3,Result.andThen_ok,newVar,newRow,run_newObj,Sem.run_pure,aP.obj,Cells.den,z1];rfl
  ·cases h
 case h_5 op t y hop=>
  split at h
  ·rename_i v hv;split at h
   ·cases h
   ·rename_i hnt;simp only [Q.new.injEq] at h;obtain ⟨rfl,rfl,rfl⟩:=h;obtain ⟨c1,-⟩:=SV.qK (β:=β) hnt hsc;refine ⟨.pointer (some ⟨w.heap.size,0,none⟩),?_,fun d=>⟨(hx d).symm,rfl⟩,fun s hs=>hM.live hv s (SV.qL hnt hs)⟩;simp only [execOp,hop,hM.eval hv];refine dk ?_;simp only [Instr.box,newVar,newRow,Sem.run_bind,run_newObj,Result.andThen_ok,Sem.run_pure,c1,aP.obj,Cells.den];rfl
  ·cases h
 case h_6=>
  split at h
  ·split at h
   ·split at h
    ·split at h<;>cases h
    ·cases h
   ·split at h
    ·split at h<;>cases h
    ·cases h
   ·cases h
  ·cases h
 case h_7 op t len parts hop=>
  split at h
  ·rename_i i ps hi hps;split at h
   ·rename_i e hk;split at h
    ·rename_i ei BZ;split at h
     ·rename_i hc;simp only [Qx1,beq_eq,Qc3] at hc;obtain ⟨⟨c1,c2⟩,c3⟩:=hc;have c1:=Qz9 c1;have c3:ei.size≠0:=fun e=>by rw [e] at c3;cases c3
      split at h
      ·rename_i cs hcs;simp only [Q.new.injEq] at h;obtain ⟨rfl,rfl,rfl⟩:=h;obtain ⟨h1,h2⟩:=uq hT hM (hT _ _ hi) hk hps BZ c1 c2 c3 hcs hsc;exact ⟨_,by simp only [execOp,hop];exact dk h1,fun d=>⟨(hy d _ _).symm,rfl⟩,h2⟩
      ·cases h
     ·cases h
    ·cases h
   ·cases h
  ·cases h
 case h_8=>
  split at h
  ·unfold iQ at h;split at h
   ·split at h
    ·split at h
     ·split at h<;>cases h
     ·split at h<;>cases h
     ·split at h<;>cases h
    ·cases h
    ·split at h<;>cases h
    ·cases h
   ·split at h<;>cases h
   ·cases h
  ·cases h
 case h_9=>
  split at h
  ·unfold fS at h;split at h
   ·split at h
    ·split at h
     ·split at h<;>cases h
     ·split at h<;>cases h
     ·split at h
      ·cases h
      ·split at h<;>cases h
     ·cases h
    ·cases h
   ·cases h
  ·cases h
 case h_10=>split at h<;>cases h
 case h_11=>
  split at h
  ·have key:∀{op xt} {p q:C},As T op xt p q≠.new sc b x:=by
    intro op xt p q h;have hi:∀k m m',lS op k m m'≠.new sc b x:=fun k m m' h=>by cases op<;>cases h
    have hn:∀neg k,Au neg k p q≠.new sc b x:=fun neg k h=>by
     unfold Au at h;split at h<;>(try split at h)<;>(try split at h)<;>cases h
    unfold As at h;split at h
    ·split at h
     ·split at h
      ·split at h
       ·exact hi _ _ _ h
       ·exact hi _ _ _ h
       ·split at h
        ·exact hi _ _ _ h
        ·cases h
      ·cases h
     ·split at h
      ·split at h<;>cases h
      ·cases h
     ·split at h
      ·exact hn _ _ h
      ·exact hn _ _ h
      ·cases h
    ·cases h
   split at h
   ·split at h
    ·exact (key h).elim
    ·cases h
   ·exact (key h).elim
  ·cases h
 case h_12=>split at h<;>cases h
 case h_13=>split at h<;>cases h
 case h_14=>split at h<;>cases h
 case h_15=>
  split at h
  ·split at h<;>cases h
  ·cases h
 case h_16=>split at h<;>(try split at h)<;>(try split at h)<;>cases h
 case h_17 op t l c hop=>
  split at h
  ·rename_i i lv cv hi hl hc;unfold zm at h;split at h
   ·rename_i e hk;split at h
    ·rename_i ei BZ;split at h
     ·rename_i k1 m1 k2 m2;split at h
      ·rename_i zs hzs;split at h
       ·cases h
       ·rename_i hcond;simp only [Qm4,beq_eq,Qc3,not_or] at hcond;obtain ⟨⟨g1,g2⟩,g3⟩:=hcond;simp only [Q.new.injEq] at h;obtain ⟨rfl,rfl,rfl⟩:=h
        have g3:ei.size=zs.length:=by
         rcases hb:Nat.beq ei.size zs.length with _|_
         ·rw [hb] at g3;exact absurd rfl g3
         ·exact beq_eq.1 hb
        have hm:=xC (P:=P) (w:=w) (β:=β) hT (hT _ _ hi) hk BZ (k1:=k1) (k2:=k2) (l:=m1) (c:=m2) g1 g2 hzs g3 (hsc _ (by simp)) (hsc _ (by simp)) (hsc _ (by simp));refine ⟨_,?_,fun d=>⟨(hy d _ _).symm,rfl⟩,fun s hs=>by simp [Cells.ids] at hs⟩;simp only [execOp,hop,hM.eval hl,hM.eval hc];exact dk hm
      ·cases h
     ·cases h
    ·cases h
   ·cases h
  ·cases h
 case h_18=>
  split at h
  ·split at h
   ·split at h
    ·unfold rk at h;split at h<;>(try split at h)<;>(try split at h)<;>cases h
    ·cases h
   ·cases h
  ·cases h
 case h_19=>
  split at h
  ·split at h
   ·split at h
    ·split at h
     ·split at h
      ·cases h
      ·split at h<;>cases h
     ·cases h
    ·cases h
   ·cases h
  ·cases h
 case h_20=>
  split at h
  ·split at h
   ·split at h
    ·split at h
     ·split at h
      ·cases h
      ·cases h
      ·split at h<;>cases h
     ·cases h
    ·cases h
   ·cases h
  ·cases h
 case h_21=>
  split at h
  ·unfold fR at h;split at h
   ·split at h
    ·split at h
     ·split at h<;>cases h
     ·cases h
    ·split at h
     ·split at h<;>cases h
     ·cases h
    ·cases h
   ·cases h
  ·cases h
 case h_22=>split at h<;>(try split at h)<;>(try split at h)<;>cases h
 case h_23=>
  split at h
  ·split at h
   ·split at h
    ·split at h
     ·split at h
      ·unfold bX at h;split at h
       ·cases h
       ·split at h
        ·cases h
        ·dsimp only at h;split at h
         ·cases h
         ·split at h
          ·cases h
          ·split at h
           ·split at h<;>cases h
           ·cases h
          ·split at h
           ·split at h<;>cases h
           ·cases h
          ·cases h
      ·cases h
     ·cases h
    ·cases h
   ·cases h
  ·split at h
   ·exfalso;rcases kY (T:=T) (bx:=st.boxes) with e|⟨_,_,_,e⟩<;>(rw [e] at h;cases h)
   ·cases h
  ·split at h
   ·split at h
    ·unfold ko at h;split at h
     ·cases h
     ·split at h<;>(try split at h)<;>(try split at h)<;>cases h
    ·cases h
   ·cases h
  ·cases h
 case h_24=>
  split at h
  ·split at h<;>cases h
  ·unfold kq at h;split at h
   ·split at h
    ·split at h
     ·split at h<;>cases h
     ·cases h
    ·cases h
   ·cases h
  ·cases h
 case h_25=>
  split at h
  ·unfold vF at h;split at h
   ·cases h
   ·split at h<;>cases h
  ·cases h
 case h_26=>cases h
def cL:Q->Nat
 | .fail=>0|.ret ..=>1|.new ..=>2|.tu ..=>3|.rd ..=>4|.nk ..=>5|.app ..=>6|.qZ ..=>6
theorem oh {op:BinOp}{k:IntKind}{x y:Int}:cL (lS op k x y)<=1:=by cases op<;>exact Qq3 _
theorem CI {neg:Bool}{k:TK}{x y:C}:cL (Au neg k x y)<=1:=by
 unfold Au;split<;>(try split)<;>(try split)<;>first|exact Qq3 _|exact Qw2 _
theorem ns {i:TI}{cs:List C}{k:Int}:cL (kq T i cs k)<=1:=by
 unfold kq;split
 ·split
  ·split
   ·split<;>first|exact Qq3 _|exact Qw2 _
   ·exact Qw2 _
  ·exact Qw2 _
 ·exact Qw2 _
theorem pU {op:BinOp}{xt:TypeId}{x y:C}:cL (As T op xt x y)<=1:=by
 unfold As;split
 ·split
  ·split
   ·split
    ·exact oh
    ·exact oh
    ·split
     ·exact oh
     ·exact Qw2 _
   ·exact Qw2 _
  ·split
   ·split<;>first|exact Qq3 _|exact Qw2 _
   ·exact Qw2 _
  ·split
   ·exact CI
   ·exact CI
   ·exact Qw2 _
 ·exact Qw2 _
theorem vW {sz:Nat}{x:SV}{lo hi mx:Option SV}:cL (rk sz x lo hi mx)<=1:=by
 unfold rk;split<;>(try split)<;>(try split)<;>first|exact Qq3 _|exact Qw2 _
theorem mn {i:TI}{x ix:SV}:cL (fR T i x ix)<=1:=by
 unfold fR;split<;>(try split)<;>(try split)<;>(try split)<;>first|exact Qq3 _|exact Qw2 _
theorem pV {b:Builtin}{k:TK}{xs:List SV}:cL (ko b k xs)<=1:=by
 unfold ko;split<;>(try split)<;>(try split)<;>(try split)<;>first|exact Qq3 _|exact Qw2 _
theorem G5 {i:TI}{l c:SV}:cL (zm T i l c)=0\/cL (zm T i l c)=2:=by
 unfold zm;split<;>(try split)<;>(try split)<;>(try split)<;>(try split)<;>first|exact .inl rfl|exact .inr rfl
theorem oo {bx:Nat->Option aP}{i:TI}{a x:SV}:cL (fS bx i a x)=0\/cL (fS bx i a x)=3:=by
 unfold fS;split<;>(try split)<;>(try split)<;>(try split)<;>(try split)<;>first|exact .inl rfl|exact .inr rfl
theorem ru {bx:Nat->Option aP}{i:TI}{x:SV}:cL (iQ bx i x)=0\/cL (iQ bx i x)=1\/cL (iQ bx i x)=4\/cL (iQ bx i x)=5:=by
 unfold iQ;split<;>(try split)<;>(try split)<;>(try split)<;>first|exact .inl rfl|exact .inr (.inl rfl)|exact .inr (.inr (.inl rfl))|exact .inr (.inr (.inr rfl))
theorem mj {bx:Nat->Option aP}{e:TypeId}{ei:TI}{b x:SV}:cL (bX bx e ei b x)=0\/cL (bX bx e ei b x)=6:=by
 unfold bX;split
 ·exact .inl rfl
 ·split
  ·exact .inl rfl
  ·dsimp only;split
   ·exact .inl rfl
   ·split<;>(try split)<;>(try split)<;>first|exact .inl rfl|exact .inr rfl
theorem om {bx:Nat->Option aP}{t:TypeId}{x:SV}:cL (kX T bx t x)=0\/cL (kX T bx t x)=3:=by
 rcases kY (T:=T) (bx:=bx) (t:=t) (x:=x) with e|⟨_,_,_,e⟩<;>rw [e]<;>first|exact .inl rfl|exact .inr rfl
theorem eZ {ρ:Operand->Option SV}{bx:Nat->Option aP}{op:Op} :
  (cL (aK T ρ bx op)=3->((∃t a x,op=.store t a x)\/∃c,op=.call c/\c.callee=.builtin .clear))/\(cL (aK T ρ bx op)=4\/cL (aK T ρ bx op)=5->∃t a,op=.load t a) /\
  (cL (aK T ρ bx op)=6->∃c,op=.call c/\c.callee=.builtin .append):=by
 have gE:∀{q:Q},cL q<=1->(cL q=3->((∃t a x,op=.store t a x)\/∃c,op=.call c/\c.callee=.builtin .clear))/\(cL q=4\/cL q=5->∃t a,op=.load t a)/\(cL q=6->∃c,op=.call c/\c.callee=.builtin .append):=by
  intro q h;exact ⟨by omega,by omega,by omega⟩
 have VO:∀{q:Q},cL q=0\/cL q=2->(cL q=3->((∃t a x,op=.store t a x)\/∃c,op=.call c/\c.callee=.builtin .clear))/\(cL q=4\/cL q=5->∃t a,op=.load t a)/\(cL q=6->∃c,op=.call c/\c.callee=.builtin .append):=by
  intro q h;exact ⟨by omega,by omega,by omega⟩
 unfold aK;split
 case h_8=>
  split
  ·refine ⟨fun h=>?_,fun _=>⟨_,_,rfl⟩,fun h=>?_⟩
   ·rcases ru (bx:=bx) with h'|h'|h'|h'<;>(rw [h'] at h;cases h)
   ·rcases ru (bx:=bx) with h'|h'|h'|h'<;>(rw [h'] at h;cases h)
  ·exact gE (Qw2 _)
 case h_9=>
  split
  ·refine ⟨fun _=>.inl ⟨_,_,_,rfl⟩,fun h=>?_,fun h=>?_⟩
   ·rcases oo (bx:=bx) with h'|h'<;>(rw [h'] at h;rcases h with h|h<;>cases h)
   ·rcases oo (bx:=bx) with h'|h'<;>(rw [h'] at h;cases h)
  ·exact gE (Qw2 _)
 case h_11=>
  split
  ·split
   ·split
    ·exact gE pU
    ·exact gE (Qw2 _)
   ·exact gE pU
  ·exact gE (Qw2 _)
 case h_17=>
  split
  ·exact VO G5
  ·exact gE (Qw2 _)
 case h_18=>
  split
  ·split
   ·split
    ·exact gE vW
    ·exact gE (Qw2 _)
   ·exact gE (Qw2 _)
  ·exact gE (Qw2 _)
 case h_21=>
  split
  ·exact gE mn
  ·exact gE (Qw2 _)
 case h_23 c=>
  split
  ·rename_i hc;refine ⟨fun h=>?_,fun h=>?_,fun _=>⟨c,rfl,hc⟩⟩
   ·exfalso;split at h<;>(try split at h)<;>(try split at h)<;>(try split at h)<;>first|(rcases mj (bx:=bx) with h'|h'<;>(rw [h'] at h;cases h))|cases h
   ·exfalso;split at h<;>(try split at h)<;>(try split at h)<;>(try split at h)<;>first|(rcases mj (bx:=bx) with h'|h'<;>(rw [h'] at h;rcases h with h|h<;>cases h))|(rcases h with h|h<;>cases h)
  ·rename_i hc;split
   ·refine ⟨fun _=>.inr ⟨c,rfl,hc⟩,fun h=>?_,fun h=>?_⟩
    ·rcases om (T:=T) (bx:=bx) with h'|h'<;>(rw [h'] at h;rcases h with h|h<;>cases h)
    ·rcases om (T:=T) (bx:=bx) with h'|h'<;>(rw [h'] at h;cases h)
   ·exact gE (Qw2 _)
  ·split
   ·split
    ·exact gE pV
    ·exact gE (Qw2 _)
   ·exact gE (Qw2 _)
  ·exact gE (Qw2 _)
 case h_24=>
  split
  ·split
   ·exact gE (Qq3 _)
   ·exact gE (Qw2 _)
  ·exact gE ns
  ·exact gE (Qw2 _)
 case h_25=>
  split
  ·unfold vF;split
   ·exact gE (Qw2 _)
   ·split
    ·exact gE (Qq3 _)
    ·exact gE (Qw2 _)
  ·exact gE (Qw2 _)
 all_goals
  first
  | exact gE (Qw2 _)
  | ((repeat' split)<;>first|exact gE (Qw2 _)|exact gE (Qq3 _)|exact VO (.inr rfl))
theorem Ep (hT:cI.ok P T)(hM:Mod n V0 bw β0 st β a w V){t:TypeId}{x:SV}{sc:List Prop}{s:Nat}{b:aP}(h:kX T st.boxes t x=.tu sc s b)(hsc:∀p∈sc,p)(ty:TypeId)(cs:Array Bool) :
  ∃w',(builtin .clear #[t] ty cs #[x.den β]).run P w=.ok (.value (.tuple #[])) w'/\Mod n V0 bw β0 (st.box s b) β a w' V:=by
 unfold kX at h;split at h
 ·rename_i i M;split at h
  ·rename_i e G;split at h
   ·rename_i r N;split at h
    ·rename_i q g o k c O;split at h
     ·rename_i f D H;split at h
      ·cases h
      ·rename_i I;simp only [Q.tu.injEq] at h;obtain ⟨rfl,rfl,rfl⟩:=h;simp only [Qm4,beq_eq,Qw7,not_or,Bool.not_eq_false,Qz0] at I;obtain ⟨⟨c1,J⟩,R⟩:=I;obtain ⟨info,d,z,h1,K,h3,S,h5,h6,h7⟩:=aF (hT _ _ M);obtain ⟨U,ed,u,W,e2,X,e4,Y,e6,Z⟩:=aF (hT _ _ N);rw [S] at G;obtain rfl:=aV G;obtain ⟨L,z2⟩:=dH (β:=β) Z;obtain ⟨d1,-⟩:=dT (β:=β) O;have a0:u.cells.size=U.size:=by rw [←L,d1];simp [←Y,J]
       have XG:u.cells.toList=q:=by rw [←d1,←L]
       have hle:o+k*r.size<=f.length:=hsc _ (by simp)
       have y:∀m,(rN m q).length=m*r.size:=fun m=>by
        rw [qm,J];simp [List.length_flatten]
       have E:∀v∈rN k q,v.oneCell'=true:=fun v A=>by
        rw [qm] at A;obtain ⟨l,hl,A⟩:=List.mem_flatten.1 A;rw [Qf9 hl] at A;exact R v A
       have j:w.heap[β g]?=some (.cells f.toArray D (0,0)):=hM.row H cf;have key:=run_storeCells_at (P:=P) (β g) o D (rN k q) 0 f.toArray w j (by simpa [y] using hle) E;simp only [Qy9,y] at key;refine ⟨w.setRow (β g) (f.take o++rN k q++f.drop (o+k*r.size)).toArray,?_,hM.tu H cf (by intro s' F;simp [Cells.ids] at F) (by rw [iT j];rfl) rfl rfl rfl⟩
       have B:(Builtin.clear_ #[t] ty #[SV.den β (.c (.gU g o k c))]).run P w=.ok (.tuple #[]) (w.setRow (β g) (f.take o++rN k q++f.drop (o+k*r.size)).toArray):=by
        cases k with
        | zero=>
         have e0:(f.take o++rN 0 q++f.drop (o+0*r.size)).toArray=f.toArray:=by
          rw [qm];simp
         rw [e0,setRow_self w (β g) f.toArray D (0,0) j];simp [Builtin.clear_,aj K,SV.den,C.den]
        | succ k=>
         have ek:(Builtin.zeroCells u.cells (k+1)).toList=rN (k+1) q:=by
          unfold Builtin.zeroCells;rw [qz (z:=u) (m:=k+1) _ rfl,qm,XG]
         have X3:(zeroValue e).run P w=.ok u w:=iw W X w;simp only [Qk6] at key ⊢;simp [Builtin.clear_,aj K,SV.den,C.den,X3,ek,key]
       simp only [builtin];exact dk B
     ·cases h
    ·cases h
   ·cases h
  ·cases h
 ·cases h
theorem GW (hT:cI.ok P T)(hM:Mod n V0 bw β0 st β a w V){o:Oper}{sc:List Prop}{s:Nat}{b:aP}(h:aK T st.aY st.boxes o.op=.tu sc s b)(hsc:∀p∈sc,p) :
  ∃nx w',(execOp a.eval o).run P w=.ok nx w'/\(nx=.skip\/∃v,nx=.value v)/\Mod n V0 bw β0 (st.box s b) β a w' V:=by
 rcases (eZ (T:=T) (ρ:=st.aY) (bx:=st.boxes) (op:=o.op)).1 (by rw [h];rfl) with ⟨t,y,x,d⟩|⟨c,d,k⟩
 ·rw [d] at h;simp only [aK] at h;split at h
  ·rename_i i C D l m e;obtain ⟨w',f,q⟩:=Es hM (hT _ _ l) (hM.live e) h hsc;refine ⟨.skip,w',?_,.inl rfl,q⟩;simp only [execOp,d,hM.eval m,hM.eval e];exact PU f
  ·cases h
 ·obtain ⟨E,args,r⟩:=c;dsimp only at k;subst k;rw [d] at h;simp only [aK] at h;split at h
  ·rename_i x t g j;obtain ⟨f,-⟩:=eY hM _ _ g;have u:r=#[t]:=by apply Qb9;exact j
   have z:args.map a.eval=#[x.den β]:=by apply Qb9;rw [Qm8];exact f
   obtain ⟨w',A,B⟩:=Ep hT hM h hsc o.type (args.map fun|.const _=>true|_=>false);refine ⟨.value (.tuple #[]),w',?_,.inr ⟨_,rfl⟩,B⟩;simp only [execOp,d,resolve,pure_bind,invoke,u,z];exact A
  ·cases h
theorem Jm (hT:cI.ok P T)(hM:Mod n V0 bw β0 st β a w V){o:Oper}{p:OA}{sh:uc}(h:aK T st.aY st.boxes o.op=.rd p sh){x:SV}{k:Prop}
  (hx:x.ids=[])(hs:(∃c,x=.c c/\∃s',sh=.one s')\/∃cs l,x=.agg cs/\sh=.agg l/\cs.length=l.length)(hr:V.J1 p x k) :
  (execOp a.eval o).run P w=.ok (.value (x.den β)) w/\k:=by
 obtain ⟨t,y,b⟩:=(eZ (T:=T) (ρ:=st.aY) (bx:=st.boxes) (op:=o.op)).2.1 (by rw [h];exact .inl rfl);rw [b] at h;simp only [aK] at h;split at h
 ·rename_i i m d e;unfold iQ at h;split at h
  ·split at h
   ·split at h
    ·split at h<;>cases h
    ·split at h<;>cases h
    ·split at h<;>cases h
   ·cases h
   ·split at h<;>cases h
   ·cases h
  ·split at h
   ·rename_i f;simp only [Q.rd.injEq] at h;obtain ⟨rfl,rfl⟩:=h;obtain ⟨g,j⟩:=Nf hM (hT _ _ d) (beq_eq.1 f) hx hs hr;refine ⟨?_,j⟩;simp only [execOp,b,hM.eval e];exact dk g
   ·cases h
  ·cases h
 ·cases h
theorem Ct (hT:cI.ok P T)(hM:Mod n V0 bw β0 st β a w V){o:Oper}{vs:List Value}{of size:Nat}{sh:uc}(h:aK T st.aY st.boxes o.op=.nk vs of size sh){x:SV}
  (hx:x.ids=[])(hs:(∃c,x=.c c/\∃s',sh=.one s')\/∃cs l,x=.agg cs/\sh=.agg l/\cs.length=l.length)(hr:K_ vs of size x) :
  (execOp a.eval o).run P w=.ok (.value (x.den β)) w:=by
 obtain ⟨t,y,b⟩:=(eZ (T:=T) (ρ:=st.aY) (bx:=st.boxes) (op:=o.op)).2.1 (by rw [h];exact .inr rfl);rw [b] at h;simp only [aK] at h;split at h
 ·rename_i i m g j;unfold iQ at h;split at h
  ·split at h
   ·split at h
    ·split at h<;>cases h
    ·split at h<;>cases h
    ·split at h<;>cases h
   ·rename_i d;simp only [Q.nk.injEq] at h;obtain ⟨rfl,rfl,rfl,rfl⟩:=h;have f:=zn hM (hT _ _ g) (.inl d) hx hs hr;simp only [execOp,b,hM.eval j];exact dk f
   ·rename_i d;split at h
    ·cases h
    ·rename_i k;simp only [Q.nk.injEq] at h;obtain ⟨rfl,rfl,rfl,rfl⟩:=h;have f:=zn hM (hT _ _ g) (.inr ⟨d,fun e=>k (by rw [e];rfl)⟩) hx hs hr;simp only [execOp,b,hM.eval j];exact dk f
   ·cases h
  ·split at h<;>cases h
  ·cases h
 ·cases h
end Go.Eng
namespace Go.Eng
variable {P:Program} {T:cI} {n:Nat} {V0:View} {bw:Ds} {β0:Nat->Nat} {st:St} {β:Nat->Nat} {a:Act} {w:World} {V:View}
theorem cj {x:Nat}{l:List Nat}:dZ x l=true↔x∈l:=by
 induction l with
 | nil=>simp [dZ]
 | cons y r ih=>
  simp only [dZ,Qq4]
  cases h:Nat.beq x y with
  | true=>simp [beq_eq.1 h]
  | false=>
   have:x≠y:=fun e=>by rw [e,Qz8] at h;cases h
   simp [ih,this]
theorem eP {x:Nat}{l:List Nat}:dZ x l=false↔x∉l:=by
 rw [←cj];cases dZ x l<;>simp
theorem BN {l m:List Nat}:uL l m=true↔∀x∈l,x∉m:=by
 unfold uL;rw [Qz0];constructor
 ·intro h x a hm;have:=h x a;rw [Qw7,eP] at this;exact this hm
 ·intro h x a;rw [Qw7,eP];exact h x a
theorem C.gk {L:List Nat}{β':Nat->Nat}(hβ:∀s∈L,β' s=β s)(c:C):(c.rel L β' (C.den β)).den β=c.den β/\∀s∈(c.rel L β' (C.den β)).ids,s∈c.ids/\s∉L:=by
 cases c with
 | v x=>exact ⟨rfl,fun s a=>by cases a⟩
 | w x=>exact ⟨rfl,fun s a=>by cases a⟩
 | tt=>exact ⟨rfl,fun s a=>by cases a⟩
 | ff=>exact ⟨rfl,fun s a=>by cases a⟩
 | ptr s o=>
  simp only [C.rel]
  cases h:dZ s L with
  | true=>exact ⟨by simp [C.den,hβ s (cj.1 h)],fun s a=>by cases a⟩
  | false=>exact ⟨rfl,fun t b=>⟨b,by simp [C.ids] at b;subst b;exact eP.1 h⟩⟩
 | gU s o n c=>
  simp only [C.rel]
  cases h:dZ s L with
  | true=>exact ⟨by simp [C.den,hβ s (cj.1 h)],fun s a=>by cases a⟩
  | false=>exact ⟨rfl,fun t b=>⟨b,by simp [C.ids] at b;subst b;exact eP.1 h⟩⟩
 | gF s n c=>
  simp only [C.rel]
  cases h:dZ s L with
  | true=>exact ⟨by simp [C.den,hβ s (cj.1 h)],fun s a=>by cases a⟩
  | false=>exact ⟨rfl,fun t b=>⟨b,by simp [C.ids] at b;subst b;exact eP.1 h⟩⟩
 | kd f ss=>
  simp only [C.rel]
  cases h:uL ss L with
  | true=>exact ⟨rfl,fun t b=>⟨b,BN.1 h t b⟩⟩
  | false=>exact ⟨rfl,fun s a=>by cases a⟩
theorem pN {L:List Nat}{β':Nat->Nat}(hβ:∀s∈L,β' s=β s)(cs:List C) :
  (cs.map (C.rel L β' (C.den β))).map (C.den β)=cs.map (C.den β)/\∀s∈(cs.map (C.rel L β' (C.den β))).flatMap C.ids,s∈cs.flatMap C.ids/\s∉L:=by
 refine ⟨?_,fun s a=>?_⟩
 ·rw [Qt8];exact Qj0 fun c _=>(C.gk hβ c).1
 ·obtain ⟨g,b,a⟩:=Qw5.1 a;obtain ⟨c,d,rfl⟩:=Qy0.1 b;obtain ⟨e,f⟩:=(C.gk hβ c).2 s a;exact ⟨gD d e,f⟩
theorem SV.gk {L:List Nat}{β':Nat->Nat}(hβ:∀s∈L,β' s=β s)(x:SV):(x.rel L β' (C.den β)).den β=x.den β/\∀s∈(x.rel L β' (C.den β)).ids,s∈x.ids/\s∉L:=by
 cases x with
 | c c=>exact C.gk hβ c
 | agg cs=>
  obtain ⟨a,d⟩:=pN hβ cs;exact ⟨by simp only [SV.rel,SV.den,a],d⟩
 | oI xs=>
  refine ⟨?_,fun s e=>?_⟩
  ·simp only [SV.rel,SV.den,Qt8];congr 2;apply Qj0;rintro ⟨b,cs⟩ -
   have a:=(pN hβ cs).1
   cases b with
   | true=>simp only [Function.comp,ib,a]
   | false=>
    match cs with
    | []=>rfl
    | [x]=>simp only [Function.comp,Qb3,List.map_nil,ib];exact (C.gk hβ x).1
    | _::_::_=>rfl
  ·obtain ⟨i,f,e⟩:=Qw5.1 e;obtain ⟨y,g,rfl⟩:=Qy0.1 f;obtain ⟨a,d⟩:=(pN hβ y.2).2 s e;exact ⟨Qw5.2 ⟨y,g,a⟩,d⟩
theorem aP.gk {L:List Nat}{β':Nat->Nat}(hβ:∀s∈L,β' s=β s)(b:aP):(b.rel L β' (C.den β)).obj β=b.obj β/\∀s∈(b.rel L β' (C.den β)).cs.ids,s∈b.cs.ids/\s∉L:=by
 obtain ⟨cs,ty⟩:=b
 cases cs with
 | lit cs=>
  obtain ⟨c,d⟩:=pN hβ cs;exact ⟨by simp only [aP.rel,aP.obj,Cells.den,c],d⟩
 | row vs=>exact ⟨rfl,fun s a=>by cases a⟩
 | aN vs=>exact ⟨rfl,fun s a=>by cases a⟩
theorem aP.eE {L:List Nat}{β':Nat->Nat}{J:C->Value}{b:aP}(h:(b.rel L β' J).live):b.live:=by
 obtain ⟨cs,ty⟩:=b
 cases cs with
 | lit cs=>exact cw
 | row vs=>exact cf
 | aN vs=>exact h
theorem zp {L:List Nat}{β':Nat->Nat}{J:C->Value}{t:Nat}{x:SV}(h:(st.rel L β' J).ay t=some x):∃y,st.ay t=some y/\x=y.rel L β' J:=by
 simp only [St.rel] at h
 cases hs:st.ay t with
 | none=>rw [hs] at h;cases h
 | some y=>rw [hs] at h;simp only [Qq2] at h;exact ⟨y,rfl,h.symm⟩
theorem e_ {L:List Nat}{β':Nat->Nat}{J:C->Value}{t:Nat}{x:aP}(h:(st.rel L β' J).boxes t=some x):t∉L/\∃y,st.boxes t=some y/\x=y.rel L β' J:=by
 simp only [St.rel] at h
 cases hm:dZ t L with
 | true=>rw [hm] at h;cases h
 | false=>
  rw [hm] at h;refine ⟨eP.1 hm,?_⟩
  cases hs:st.boxes t with
  | none=>rw [hs] at h;cases h
  | some y=>rw [hs] at h;simp only [cond_false,Qq2] at h;exact ⟨y,rfl,h.symm⟩
theorem eE {L:List Nat}{β':Nat->Nat}{J:C->Value}{t:Nat}(h:∃b,st.boxes t=some b)(hn:t∉L):∃b,(st.rel L β' J).boxes t=some b:=by
 obtain ⟨b,a⟩:=h;refine ⟨b.rel L β' J,?_⟩;simp only [St.rel,eP.2 hn,a,cond_false]
theorem Mod.rel (h:Mod n V0 bw β0 st β a w V){L:List Nat}{β':Nat->Nat}(hβ:∀s∈L,β' s=β s):Mod n V0 bw β0 (st.rel L β' (C.den β)) β a w V where
 defers:=h.defers
 size:=h.size
 ay:=by
  intro t x e;obtain ⟨y,c,rfl⟩:=zp e;rw [h.ay t y c,(SV.gk hβ y).1]
 wY:=by
  intro t x e s f;obtain ⟨y,c,rfl⟩:=zp e;obtain ⟨g,i⟩:=(SV.gk hβ y).2 s f;exact eE (h.wY t y c s g) i
 wX:=by
  intro t b d s f;obtain ⟨-,y,c,rfl⟩:=e_ d;obtain ⟨g,i⟩:=(aP.gk hβ y).2 s f;exact eE (h.wX t y c s g) i
 boxes:=by
  intro t b d l;obtain ⟨-,y,c,rfl⟩:=e_ d;rw [h.boxes t y c (aP.eE l),(aP.gk hβ y).1]
 inj:=by
  intro t m b q d l j o he;obtain ⟨-,y,c,rfl⟩:=e_ d;obtain ⟨-,p,k,rfl⟩:=e_ j;exact h.inj t m y p c (aP.eE l) k (aP.eE o) he
 nD:=h.nD
 s_:=by
  intro t b d l;obtain ⟨-,y,c,rfl⟩:=e_ d;exact h.s_ t y c (aP.eE l)
 ext:=h.ext
 own:=by
  intro t b d l;obtain ⟨-,y,c,rfl⟩:=e_ d;exact h.own t y c (aP.eE l)
 kD:=h.kD
 jD:=h.jD
 small:=h.small
theorem Mod.g_ (h:Mod n V0 bw β0 st β a w V){d g:Nat}{b:aP}(hd:d<n\/200000<=d)(hn:st.boxes d=none)(fc:b.cs.ids=[])
  (hg:∀s b',st.boxes s=some b'->b'.live->β s≠g)(hV:∀o,¬V.bI g o)(hown:V0.w.heap.size<=g\/(100000<=d/\bw.B g)){w':World}
  (hw:w'.heap[g]?=some (b.obj β))(hk:∀i,i<w.heap.size->i≠g->w'.heap[i]?=w.heap[i]?)(hsz:w.heap.size<=w'.heap.size)(hos:w'.os=w.os)(ht:w'.tape=w.tape)(hout:w'.output=w.output) :
  Mod n V0 bw β0 (st.box d b) (bG β d g) a w' V:=by
 have u:∀s b',st.boxes s=some b'->s≠d:=fun s b' c e=>by rw [e,hn] at c;cases c
 have hβ:∀s b',st.boxes s=some b'->bG β d g s=β s:=fun s b' c=>fC _ _ (u s b' c);have F:∀s b',st.boxes s=some b'->b'.live->β s<w.heap.size:=fun s b' c l=>aB (h.boxes s b' c l);have K:∀b' o,V.bI b' o->b'<w.heap.size:=fun b' o v=>aB (h.nD b' o v).1;refine ⟨h.defers,h.size,?_,?_,?_,?_,?_,?_,?_,?_,?_,?_,h.jD,h.small⟩
 ·intro t x y;rw [h.ay t x y];exact SV.bB fun s c=>by obtain ⟨b',p⟩:=h.wY t x y s c;exact (hβ s b' p).symm
 ·intro t x y s c;obtain ⟨b',p⟩:=h.wY t x y s c;exact ⟨b',by rw [ao,if_neg (u s b' p)];exact p⟩
 ·intro s b' c k f;rw [ao] at c;split at c
  ·simp only [Qq2] at c;rw [←c,fc] at f;cases f
  ·obtain ⟨q,z⟩:=h.wX s b' c k f;exact ⟨q,by rw [ao,if_neg (u k q z)];exact z⟩
 ·intro s b' c l;rw [ao] at c;split at c
  ·rename_i e;simp only [Qq2] at c;rw [e,aR,hw,←c];congr 1;exact aP.cD fun k f=>by rw [fc] at f;cases f
  ·rw [hβ s b' c,hk _ (F s b' c l) (hg s b' c l),h.boxes s b' c l];congr 1;exact aP.cD fun k f=>by obtain ⟨q,z⟩:=h.wX s b' c k f;exact (hβ k q z).symm
 ·intro s k A C j G m H he;rw [ao] at j m;split at j<;>split at m
  ·rename_i D E;rw [D,E]
  ·rename_i D E;rw [D,aR,hβ k C m] at he;exact absurd he.symm (hg k C m H)
  ·rename_i D E;rw [E,aR,hβ s A j] at he;exact absurd he (hg s A j G)
  ·rw [hβ s A j,hβ k C m] at he;exact h.inj s k A C j G m H he
 ·intro b' o v;obtain ⟨j,m⟩:=h.nD b' o v;refine ⟨?_,m⟩;rw [hk _ (K b' o v) (fun e=>hV o (e▸v))];exact j
 ·intro s b' c l o r;rw [ao] at c;split at c
  ·rename_i e;rw [e,aR] at r;exact hV o r
  ·rw [hβ s b' c] at r;exact h.s_ s b' c l o r
 ·refine ⟨Qx3 h.ext.size hsz,fun i I J=>?_,hos.trans h.ext.os,ht.trans h.ext.tape,hout.trans h.ext.out⟩
  rw [hk i (Qx2 I h.ext.size) (fun e=>by
   rcases hown with j|j
   ·omega
   ·exact J (e▸h.jD _ j.2))]
  exact h.ext.bI i I J
 ·intro s b' c l;rw [ao] at c;split at c
  ·rename_i e;rw [e,aR];exact hown
  ·rw [hβ s b' c];exact h.own s b' c l
 ·intro s c;obtain ⟨j,m⟩:=h.kD s c;exact ⟨j,by rw [fC _ _ (by have:=h.small;omega)];exact m⟩
theorem yB {t t' e e':TypeId}{ty:TypeId}(ht:P.underlying t=some (.slice e))(Ec:P.underlying t'=some (.slice e'))(b xa:OA)(m c k xc:Nat) :
  (Builtin.append_ #[t,t'] ty #[.slice b m c,.slice xa k xc]).run P w=(Builtin.append_ #[t,t] ty #[.slice b m c,.slice xa k xc]).run P w:=by
 simp [Builtin.append_,aj ht,aj Ec]
theorem ui {t e:TypeId}{ty:TypeId}{info:TypeInfo}(ht:P.underlying t=some (.slice e))(hi:P.info? e=some info)(base:OA)(m c c':Nat)(hc:m<=c:=by omega) :
  (Builtin.append_ #[t,t] ty #[.slice base m c,.slice none 0 c']).run P w=.ok (.slice base m c) w:=by
 cases base<;>simp [Builtin.append_,aj ht,aJ hi,Builtin.lenOf,Builtin.firstCells,storeCells,hc]
theorem lG (hM:Mod n V0 bw β0 st β a w V){s:Nat}{vs:List Value}{ty:TypeId}(h:dJ st.boxes s=some vs)(ht:jZ st.boxes s=some ty):w.heap[β s]?=some (.cells vs.toArray ty (0,0))/\∃b,st.boxes s=some b/\b.live:=by
 unfold dJ at h;unfold jZ at ht;split at h
 ·rename_i cs d c;rw [c] at ht;simp only [Qq2] at ht;subst ht;have:=hM.row c cw;simp only [Cells.den,(dT (β:=β) h).1] at this;exact ⟨this,_,c,cw⟩
 ·rename_i ws d c;rw [c] at ht;simp only [Qq2,Qq2] at ht h;subst ht;subst h;exact ⟨hM.row c cf,_,c,cf⟩
 ·cases h
theorem DC {bx:Nat->Option aP}{s:Nat}{vs:List Value}(h:dJ bx s=some vs):∃ty,jZ bx s=some ty:=by
 unfold dJ at h;unfold jZ;split at h
 ·rename_i a;rw [a];exact ⟨_,rfl⟩
 ·rename_i a;rw [a];exact ⟨_,rfl⟩
 ·cases h
theorem vN (hM:Mod n V0 bw β0 st β a w V){ad:Addr}{xs:List Value}(h:V.sl (some ad) xs):∀j v,xs[j]?=some v->w.cell? (ad.add j)=some v:=by
 intro j v c;obtain ⟨d,e,b⟩:=h j v c;simp only [Qq2] at e;subst e;exact hM.Rb b
def Src (w:World)(xa:OA)(k size:Nat)(xs:List Value):Prop:=
 xs.length=k*size/\(∀v∈xs,v.oneCell'=true)/\((∃ad,xa=some ad/\∀j v,xs[j]?=some v->w.cell? (ad.add j)=some v)\/xa=none/\k=0)
theorem HC {t e ty:TypeId}{info:TypeInfo}(ht:P.underlying t=some (.slice e))(hi:P.info? e=some info){g m c k xc:Nat}{vs xs:List Value}{xa:OA}
  (hg:w.heap[g]?=some (.cells vs.toArray e (0,0)))(hx:Src w xa k info.size xs)(hc:m+k<=c)(hv:c*info.size<=vs.length) :
  ∃w',(Builtin.append_ #[t,t] ty #[.slice (some ⟨g,0,none⟩) m c,.slice xa k xc]).run P w=.ok (.slice (some ⟨g,0,none⟩) (m+k) c) w' /\
   w'.heap=w.heap.setIfInBounds g (.cells (vs.take (m*info.size)++xs++vs.drop (m*info.size+xs.length)).toArray e (0,0))/\w'.os=w.os/\w'.tape=w.tape/\w'.output=w.output:=by
 obtain ⟨d,h,hx⟩:=hx;rcases hx with ⟨j,rfl,a⟩|⟨rfl,rfl⟩
 ·have b:m*info.size+xs.length<=vs.length:=by
   rw [d,←Qj4];exact Qx3 (Qq9 _ hc) hv
  have l:=run_append_room (P:=P) w t ty e info ht hi g m c vs.toArray hg j k xc xs d a h hc (by simpa using b);exact ⟨_,l,by rw [iT hg],rfl,rfl,rfl⟩
 ·have f:xs=[]:=Qq6.1 (by simpa using d);subst f;refine ⟨w,?_,?_,rfl,rfl,rfl⟩
  ·simpa using ui (P:=P) (w:=w) (ty:=ty) ht hi (some ⟨g,0,none⟩) m c xc
  ·simp only [Qk2,Qd1,Qy9,Qk5];apply Array.ext_getElem?;intro i;rw [Qb4];split
   ·rename_i e;rw [←e,if_pos (aB hg)];exact hg
   ·rfl
theorem yA {t e ty:TypeId}{info:TypeInfo}{z:Value}(ht:P.underlying t=some (.slice e))(hi:P.info? e=some info)(hz:info.zero=some z)(hzs:z.cells.size=info.size)
  {m c k xc:Nat}{olds xs:List Value}{base xa:OA}
  (hbase:(∃b,base=some b/\olds.length=m*info.size/\∀j v,olds[j]?=some v->w.cell? (b.add j)=some v)\/base=none/\m=0/\c=0/\olds=[])
  (hx:Src w xa k info.size xs)(hc:c<m+k)(hb:(m+k)*info.bytes<=140737488355328)(hb0:info.bytes≠0)(hmc:m<=c) :
  ∃(c':Nat)(rest:List Value)(w':World),m+k<=c'/\(m+k)*info.size+rest.length=c'*info.size/\w'.heap=w.heap/\w'.os=w.os/\w'.tape=w.tape/\w'.output=w.output /\
   (Builtin.append_ #[t,t] ty #[.slice base m c,.slice xa k xc]).run P w=.ok (.slice (some ⟨w.heap.size,0,none⟩) (m+k) c') (w'.alloc (.cells (olds++xs++rest).toArray e)):=by
 obtain ⟨h,n,hx⟩:=hx
 have f:(m+k:Nat)<=140737488355328:=by
  have:(m+k)*1<=(m+k)*info.bytes:=Qy4 _ (by omega);omega
 have a:∀N,(m+k)<=N->(m+k)*info.size+(Builtin.zeroCells z.cells (N-(m+k))).toList.length=N*info.size:=by
  intro N o;rw [Array.length_toList,size_zeroCells,hzs,←Qj4];congr 1;omega
 rcases hx with ⟨i,rfl,d⟩|⟨rfl,rfl⟩
 ·rcases hbase with ⟨b,rfl,l,hold⟩|⟨rfl,rfl,rfl,rfl⟩
  ·have g:=run_append_grow (P:=P) w t ty e info z ht hi hz b m c olds l hold i k xc xs h d hc (by omega) (growslice_fits hc hb);refine ⟨_,(Builtin.zeroCells z.cells (grownCap w (m+k) c e-(m+k))).toList,w.drew,grownCap_ge w (m+k) c e,a _ (grownCap_ge w (m+k) c e),rfl,rfl,rfl,rfl,?_⟩;rw [g];congr 3;apply Qb9;simp
  ·simp only [Qy1] at hc hb f a ⊢;have g:=run_append_nil (P:=P) w t ty e info z ht hi hz i k xc xs h d (by omega) (by omega) (by omega);refine ⟨_,(Builtin.zeroCells z.cells (grownCap w k 0 e-k)).toList,w.drew,grownCap_ge w k 0 e,a _ (grownCap_ge w k 0 e),rfl,rfl,rfl,rfl,?_⟩;rw [g];congr 3;apply Qb9;simp
 ·omega
theorem Ah {s d n:Nat}(hd:d<n):mT s d<n\/200000<=mT s d:=by
 unfold mT
 cases Nat.blt s 100000 with
 | true=>exact .inl hd
 | false=>exact .inr (by rw [cond_false];exact Nat.le_add_left _ _)
theorem Ft {s d:Nat}(hs:100000<=s):100000<=mT s d:=by
 unfold mT
 have:Nat.blt s 100000=false:=by
  cases h:Nat.blt s 100000 with
  | false=>rfl
  | true=>have:=Qz9 h;omega
 rw [this,cond_false];omega
theorem Bm (hM:Mod n V0 bw β0 st β a w V){d:Nat}(hd:d<n){t e ty:TypeId}{info:TypeInfo}{z:Value}
  (ht:P.underlying t=some (.slice e))(hi:P.info? e=some info)(hz:info.zero=some z)(hzs:z.cells.size=info.size)(hb0:info.bytes≠0)
  {s:Nat}{vs xs:List Value}{m c k xc:Nat}{base xa:OA}
  (hbase:(base=some ⟨β s,0,none⟩/\w.heap[β s]?=some (.cells vs.toArray e (0,0))/\∃b,st.boxes s=some b/\b.live)\/(base=none/\m=0/\c=0/\k≠0))
  (hx:Src w xa k info.size xs)(hb:(m+k)*info.bytes<=140737488355328)(hmc:m<=c)(hcv:c*info.size<=vs.length)(hxl:xs.length=k*info.size)(hnb:st.boxes (mT s d)=none) :
  ∃(spare:List Value)(c' g:Nat)(w':World),m+k<=c'/\c'*info.size<=(m+k)*info.size+spare.length/\((c≠0\/k≠0)->c'≠0) /\
   (Builtin.append_ #[t,t] ty #[.slice base m c,.slice xa k xc]).run P w=.ok (.slice (some ⟨g,0,none⟩) (m+k) c') w' /\
   ∀bx:aP,(bx=⟨.row (vs.take (m*info.size)++xs++spare),e⟩\/bx=⟨.aN (vs.take (m*info.size)++xs++spare),e⟩) ->
    Mod n V0 bw β0 ((st.box s ⟨.aN [],e⟩).box (mT s d) bx) (bG β (mT s d) g) a w' V:=by
 have A:Mod n V0 bw β0 (st.box s ⟨.aN [],e⟩) β a w V:=hM.void
 have E:∀bx:aP,∀l:List Value,(bx=⟨.row l,e⟩\/bx=⟨.aN l,e⟩)->bx.cs.ids=[]/\bx.obj β=.cells l.toArray e (0,0):=by
  rintro bx l (rfl|rfl)<;>exact ⟨rfl,rfl⟩
 have Z:∀t b,(st.box s ⟨.aN [],e⟩).boxes t=some b->b.live->st.boxes t=some b/\t≠s:=by
  intro t b hb l;rw [ao] at hb;split at hb
  ·cases hb;exact absurd l eB
  ·rename_i h;exact ⟨hb,h⟩
 have K:(∃b,st.boxes s=some b/\b.live)\/True->(s≠mT s d\/st.boxes s=none)->(st.box s ⟨.aN [],e⟩).boxes (mT s d)=none\/s=mT s d:=by
  intro _ _;by_cases h:s=mT s d
  ·exact .inr h
  ·left;rw [ao,if_neg (Wx0 h)];exact hnb
 have p:c<m+k->((∃b,base=some b/\(vs.take (m*info.size)).length=m*info.size/\∀j v,(vs.take (m*info.size))[j]?=some v->w.cell? (b.add j)=some v)\/base=none/\m=0/\c=0/\vs.take (m*info.size)=[]) ->
   (s=mT s d->st.boxes s=none) ->
   ∃(spare:List Value)(c' g:Nat)(w':World),m+k<=c'/\c'*info.size<=(m+k)*info.size+spare.length/\((c≠0\/k≠0)->c'≠0) /\
   (Builtin.append_ #[t,t] ty #[.slice base m c,.slice xa k xc]).run P w=.ok (.slice (some ⟨g,0,none⟩) (m+k) c') w' /\
   ∀bx:aP,(bx=⟨.row (vs.take (m*info.size)++xs++spare),e⟩\/bx=⟨.aN (vs.take (m*info.size)++xs++spare),e⟩) ->
    Mod n V0 bw β0 ((st.box s ⟨.aN [],e⟩).box (mT s d) bx) (bG β (mT s d) g) a w' V:=by
  intro F hold L;obtain ⟨c',rest,w',y,M,B,G,q,r,N⟩:=yA (ty:=ty) (xc:=xc) ht hi hz hzs hold hx F hb hb0 hmc;refine ⟨rest,c',w.heap.size,_,y,by rw [←M];exact Qq3 _,by omega,N,?_⟩;intro bx f;obtain ⟨H,I⟩:=E bx _ f;have u:w'.heap.size=w.heap.size:=by rw [B]
  by_cases W:s=mT s d
  ·
   have e1:(st.box s ⟨.aN [],e⟩).box (mT s d) bx=st.box (mT s d) bx:=by
    rw [←W];simp only [St.box];congr 1;funext t;cases Nat.beq t s<;>rfl
   rw [e1];refine hM.g_ (Ah hd) hnb H ?_ ?_ (.inl hM.ext.size) ?_ ?_ ?_ G q r
   ·intro C D f l he;have:=aB (hM.boxes C D f l);omega
   ·intro o f;have:=aB (hM.nD _ o f).1;omega
   ·rw [I,←u];exact heap_alloc_new _ _
   ·intro i O _;rw [dh _ _,B]
   ·simp [u]
  ·refine A.g_ (Ah hd) (by rw [ao,if_neg (Wx0 W)];exact hnb) H ?_ ?_ (.inl hM.ext.size) ?_ ?_ ?_ G q r
   ·intro C D f l he;have:=aB (A.boxes C D f l);omega
   ·intro o f;have:=aB (hM.nD _ o f).1;omega
   ·rw [I,←u];exact heap_alloc_new _ _
   ·intro i O _;rw [dh _ _,B]
   ·simp [u]
 rcases hbase with ⟨rfl,Q,R,x,S⟩|⟨rfl,rfl,rfl,a0⟩
 ·have X:s≠mT s d:=fun e=>by rw [←e,x] at hnb;cases hnb
  by_cases F:m+k<=c
  ·obtain ⟨w',N,B,G,q,r⟩:=HC (ty:=ty) (xc:=xc) ht hi Q hx F hcv
   have Y:m*info.size+xs.length<=vs.length:=by
    rw [hxl,←Qj4];exact Qx3 (Qq9 _ F) hcv
   have T:=aB Q;refine ⟨vs.drop (m*info.size+xs.length),c,β s,w',F,by rw [Qk7,hxl,Qj4];omega,by omega,N,?_⟩;intro bx f;obtain ⟨H,I⟩:=E bx _ f;refine A.g_ (Ah hd) (by rw [ao,if_neg (Wx0 X)];exact hnb) H ?_ (hM.s_ s R x S) ?_ ?_ ?_ (by rw [B];simp) G q r
   ·intro C D f l he;obtain ⟨y,M⟩:=Z C D f l;exact M (hM.inj C s D R y l x S he)
   ·rcases hM.own s R x S with y|y
    ·exact .inl y
    ·exact .inr ⟨Ft y.1,y.2⟩
   ·rw [B,Qb4,if_pos rfl,if_pos T,I]
   ·intro i _ U;rw [B,Qb4,if_neg (Wx0 U)]
  ·refine p (by omega) (.inl ⟨⟨β s,0,none⟩,rfl,?_,?_⟩) (fun e=>absurd e X)
   ·rw [Qw0,Qy5];exact Qx3 (Qq9 _ hmc) hcv
   ·intro j v J;rw [eu,cell_of_row Q];rw [Qv3] at J;split at J
    ·simpa using J
    ·cases J
 ·refine p (by omega) (.inr ⟨rfl,rfl,rfl,by simp⟩) (fun e=>by rw [e];exact hnb)
theorem uj (hM:Mod n V0 bw β0 st β a w V){K:St->View->Prop}{d:Nat}(hd:d<n){t e ty:TypeId}{info:TypeInfo}{z:Value}
  (ht:P.underlying t=some (.slice e))(hi:P.info? e=some info)(hz:info.zero=some z)(hzs:z.cells.size=info.size)(hb0:info.bytes≠0)
  {s:Nat}{vs xs:List Value}{m c k xc:Nat}{xa:OA}(hg:w.heap[β s]?=some (.cells vs.toArray e (0,0)))(hbb:∃b,st.boxes s=some b/\b.live)
  (hx:Src w xa k info.size xs)(h:Bk s vs m c info.size info.bytes e d st V K k xs) :
  ∃v w' st' β',(Builtin.append_ #[t,t] ty #[.slice (some ⟨β s,0,none⟩) m c,.slice xa k xc]).run P w=.ok v w'/\Mod n V0 bw β0 st' β' (a.put (some d) v) w' V/\K st' V:=by
 obtain ⟨q,i,j,l,r,h⟩:=h;split at h
 ·exact h.elim
 ·rename_i o;obtain ⟨spare,p,g,w',u,y,-,A,B⟩:=Bm (ty:=ty) (xc:=xc) hM hd ht hi hz hzs hb0 (.inl ⟨rfl,hg,hbb⟩) hx q i j l o;refine ⟨_,w',_,_,A,(B _ (.inl rfl)).put (x:=.c (.gU (mT s d) 0 (m+k) p)) hd ?_ ?_,h 0 (fun _=>.bool true) spare p u y⟩
  ·simp [SV.den,C.den,aR]
  ·intro D f;simp [SV.ids,C.ids] at f;subst f;exact ⟨_,by rw [ao,if_pos rfl]⟩
theorem vq (hM:Mod n V0 bw β0 st β a w V){K:St->View->Prop}{d:Nat}(hd:d<n){t e ty:TypeId}{info:TypeInfo}{z:Value}
  (ht:P.underlying t=some (.slice e))(hi:P.info? e=some info)(hz:info.zero=some z)(hzs:z.cells.size=info.size)(hb0:info.bytes≠0)(hs0:info.size≠0)
  {s:Nat}{vs xs:List Value}{m c k xc:Nat}{xa:OA}(hbb:st.boxes s=some ⟨.aN vs,e⟩)
  (hx:Src w xa k info.size xs)(h:si s vs m c info.size info.bytes e d st V K k xs) :
  ∃v w' st' β',(Builtin.append_ #[t,t] ty #[.slice (mA (β s) c) m c,.slice xa k xc]).run P w=.ok v w'/\Mod n V0 bw β0 st' β' (a.put (some d) v) w' V/\K st' V:=by
 obtain ⟨G,r,l,o,H,h⟩:=h;split at h
 ·exact h.elim
 ·rename_i u
  have fin:((mA (β s) c=some ⟨β s,0,none⟩/\w.heap[β s]?=some (.cells vs.toArray e (0,0))/\∃b,st.boxes s=some b/\b.live)\/(mA (β s) c=none/\m=0/\c=0/\k≠0))->(c≠0\/k≠0) ->
    ∃v w' st' β',(Builtin.append_ #[t,t] ty #[.slice (mA (β s) c) m c,.slice xa k xc]).run P w=.ok v w'/\Mod n V0 bw β0 st' β' (a.put (some d) v) w' V/\K st' V:=by
   intro i y;obtain ⟨spare,E,g,w',I,J,L,M,N⟩:=Bm (ty:=ty) (xc:=xc) hM hd ht hi hz hzs hb0 i hx G r l o u;refine ⟨_,w',_,_,M,(N _ (.inr rfl)).put (x:=.c (.gF (mT s d) (m+k) E)) hd ?_ ?_,h spare E I J⟩
   ·simp [SV.den,C.den,aR,mA,L y]
   ·intro O f;simp [SV.ids,C.ids] at f;subst f;exact ⟨_,by rw [ao,if_pos rfl]⟩
  by_cases j:c=0
  ·have hm:m=0:=by omega
   by_cases A:k=0
   ·
    subst j hm A;have F:=h [] 0 (by omega) (by simp);have B:xs=[]:=Qq6.1 (by simpa using o);subst B;have Q:vs.take (0*info.size)++[]++[]=([]:List Value):=by simp
    rw [Q] at F;have D:Mod n V0 bw β0 ((st.box s ⟨.aN [],e⟩).box (mT s d) ⟨.aN [],e⟩) β a w V:=hM.void.void;refine ⟨.slice none 0 0,w,_,_,?_,D.put (x:=.c (.gF (mT s d) 0 0)) hd ?_ ?_,F⟩
    ·have R:mA (β s) 0=none:=rfl;rw [R]
     cases xa with
     | none=>exact ui ht hi none 0 0 xc
     | some ad=>simp [Builtin.append_,aj ht,aJ hi,Builtin.lenOf,Builtin.firstCells,loadCells,loadCellsFrom]
    ·simp [SV.den,C.den,mA]
    ·intro O f;simp [SV.ids,C.ids] at f;subst f;exact ⟨_,by rw [ao,if_pos rfl]⟩
   ·exact fin (.inr ⟨by rw [j];rfl,hm,j,A⟩) (.inr A)
  ·have p:aP.live ⟨.aN vs,e⟩:=dQ fun S=>by
    subst S;have q:c*info.size=0:=by simpa using l
    rcases Qs9.1 q with q|q
    ·exact j q
    ·exact hs0 q
   exact fin (.inl ⟨by simp [mA,j],hM.row hbb p,_,hbb,p⟩) (.inl j)
theorem uk (hM:Mod n V0 bw β0 st β a w V){K:St->View->Prop}{d:Nat}(hd:d<n){t e ty:TypeId}{info:TypeInfo}{z:Value}
  (ht:P.underlying t=some (.slice e))(hi:P.info? e=some info)(hz:info.zero=some z)(hzs:z.cells.size=info.size)(hb0:info.bytes≠0)
  {vs xs:List Value}{m c k xc:Nat}{xa ba:OA}(hsl:V.sl ba vs)(hvl:vs.length=m*info.size)(hmc:m<=c)(hn0:ba.isNone=true->c=0)(hs0:info.size≠0)
  (hx:Src w xa k info.size xs)(h:Bl vs m c info.size info.bytes e d st V K k xs) :
  ∃v w' st' β',(Builtin.append_ #[t,t] ty #[.slice ba m c,.slice xa k xc]).run P w=.ok v w'/\Mod n V0 bw β0 st' β' (a.put (some d) v) w' V/\K st' V:=by
 obtain ⟨D,s,E,F,h⟩:=h
 have f:(∃b,ba=some b/\vs.length=m*info.size/\∀j v,vs[j]?=some v->w.cell? (b.add j)=some v)\/ba=none/\m=0/\c=0/\vs=[]:=by
  cases ba with
  | some b=>exact .inl ⟨b,rfl,hvl,vN hM hsl⟩
  | none=>
   have G:=hn0 rfl;have hm:m=0:=by omega
   subst hm;exact .inr ⟨rfl,rfl,G,Qq6.1 (by simpa using hvl)⟩
 obtain ⟨A,rest,w',H,I,B,J,u,y,L⟩:=yA (ty:=ty) (xc:=xc) (base:=ba) (olds:=vs) ht hi hz hzs f hx s D hb0 hmc;split at h
 ·exact h.elim
 ·rename_i M;have N:=h rest A H (by rw [←I];exact Qq3 _);have q:w'.heap.size=w.heap.size:=by rw [B]
  have O:=Mod.g_ hM (d:=d) (g:=w.heap.size) (b:=⟨.row (vs++xs++rest),e⟩) (w':=w'.alloc (.cells (vs++xs++rest).toArray e)) (.inl hd) M rfl
   (by
    intro Q R p l he;have:=aB (hM.boxes Q R p l);omega)
   (by intro o p;have:=aB (hM.nD _ o p).1;omega) (.inl hM.ext.size)
   (by rw [←q];exact heap_alloc_new _ _)
   (by intro i S _;rw [dh _ _,B])
   (by simp [q]) J u y
  refine ⟨_,_,_,_,L,O.put (x:=.c (.gU d 0 (m+k) A)) hd ?_ ?_,N⟩
  ·simp [SV.den,C.den,aR]
  ·intro T r;simp [SV.ids,C.ids] at r;subst r;exact ⟨_,by rw [ao,if_pos rfl]⟩
end Go.Eng
namespace Go.Eng
variable {P:Program} {T:cI} {n:Nat} {V0:View} {bw:Ds} {β0:Nat->Nat} {st:St} {β:Nat->Nat} {a:Act} {w:World} {V:View}
theorem sD (ws:List Value)(o n:Nat):(ig ws o n).length=n:=by
 unfold ig
 cases h:Nat.ble (o+n) ws.length with
 | true=>
  have:=Qz9 h;simp only [cond_true];rw [Qw0,Qk7];omega
 | false=>simp
theorem sC {ws:List Value}{o n:Nat}(h1:∀v∈ig ws o n,v.oneCell'=true){j:Nat}{v:Value}(hj:(ig ws o n)[j]?=some v):ws[o+j]?=some v:=by
 unfold ig at h1 hj
 cases h:Nat.ble (o+n) ws.length with
 | true=>
  rw [h] at hj;simp only [cond_true] at hj;rw [Qv3] at hj;split at hj
  ·simpa using hj
  ·cases hj
 | false=>
  rw [h] at hj h1;simp only [cond_false] at hj h1;have hm:=Qv1 hj;have:=h1 v hm;rw [Qf9 hm] at this;cases this
theorem FL (hM:Mod n V0 bw β0 st β a w V){ei:TI}{info:TypeInfo}(e5:ei.size=info.size){s o k xc:Nat}{src:OA×Nat ⊕ List Value}
  (hsrc:(match st.boxes s with
    | some ⟨.row ws,_⟩=>some (.inr (ig ws o (k*ei.size)))
    | _=>match dJ st.boxes s with
     | some ws=>if Nat.ble (o+k*ei.size) ws.length then some (.inr ((ws.drop o).take (k*ei.size))) else none
     | none=>none)=some src) :
  ∃xa k' Ln,(SV.c (.gU s o k xc)).den β=.slice xa k' Ln/\((src=.inl (xa,k'))\/∃xs,src=.inr xs/\xs.length=k'*info.size/\∃ad,xa=some ad/\((∀v∈xs,v.oneCell'=true)->∀j v,xs[j]?=some v->w.cell? (ad.add j)=some v)):=by
 split at hsrc
 ·rename_i ws ty f;simp only [Qq2] at hsrc;subst hsrc;have b:dJ st.boxes s=some ws:=by unfold dJ;rw [f]
  have d:jZ st.boxes s=some ty:=by unfold jZ;rw [f]
  obtain ⟨g,-⟩:=lG hM b d;refine ⟨_,k,xc,rfl,.inr ⟨_,rfl,?_,⟨β s,o,none⟩,rfl,?_⟩⟩
  ·rw [sD,←e5]
  ·intro h j v e;rw [eu,cell_of_row g];exact sC h e
 ·split at hsrc
  ·rename_i ws b;split at hsrc
   ·rename_i hle;have hle:=Qz9 hle;simp only [Qq2] at hsrc;subst hsrc;obtain ⟨i,d⟩:=DC b;obtain ⟨g,-⟩:=lG hM b d;refine ⟨_,k,xc,rfl,.inr ⟨_,rfl,?_,⟨β s,o,none⟩,rfl,?_⟩⟩
    ·rw [Qw0,Qk7,←e5];omega
    ·intro _ j v e;rw [eu,cell_of_row g];rw [Qv3] at e;split at e
     ·simpa using e
     ·cases e
   ·cases hsrc
  ·cases hsrc
theorem CG {xv:Value}{src:OA×Nat ⊕ List Value}{sz:Nat}(h:∃xa k' Ln,xv=.slice xa k' Ln/\((src=.inl (xa,k'))\/∃xs,src=.inr xs/\xs.length=k'*sz/\∃ad,xa=some ad/\((∀v∈xs,v.oneCell'=true)->∀j v,xs[j]?=some v->w.cell? (ad.add j)=some v))) :
  ∃xa k xc,xv=.slice xa k xc/\((src=.inl (xa,k))\/∃xs,src=.inr xs/\xs.length=k*sz/\((∀v∈xs,v.oneCell'=true)->(∃ad,xa=some ad/\∀j v,xs[j]?=some v->w.cell? (ad.add j)=some v)\/(xa=none/\k=0))):=by
 obtain ⟨xa,k,xc,e,h⟩:=h;refine ⟨xa,k,xc,e,h.imp id ?_⟩;rintro ⟨xs,a,b,ad,c,d⟩;exact ⟨xs,a,b,fun f=>.inl ⟨ad,c,d f⟩⟩
theorem CF (hM:Mod n V0 bw β0 st β a w V){ei:TI}{info:TypeInfo}(e5:ei.size=info.size)(hz:¬ei.size=0){s k xc:Nat}{src:OA×Nat ⊕ List Value}
  (hsrc:(match st.boxes s with
    | some ⟨.aN ws,_⟩=>some (.inr (mh ws k xc ei.size))
    | _=>none)=some src) :
  ∃xa k' Ln,(SV.c (.gF s k xc)).den β=.slice xa k' Ln/\((src=.inl (xa,k'))\/∃xs,src=.inr xs/\xs.length=k'*info.size/\((∀v∈xs,v.oneCell'=true)->(∃ad,xa=some ad/\∀j v,xs[j]?=some v->w.cell? (ad.add j)=some v)\/(xa=none/\k'=0))):=by
 split at hsrc
 ·rename_i ws ty g;simp only [Qq2] at hsrc;subst hsrc;refine ⟨_,k,xc,rfl,.inr ⟨_,rfl,?_,fun b=>?_⟩⟩
  ·unfold mh
   cases Nat.ble k xc with
   | true=>rw [cond_true,sD,e5]
   | false=>rw [cond_false,List.length_replicate,e5]
  ·unfold mh at b ⊢;by_cases m:xc=0
   ·subst m
    cases k with
    | zero=>exact .inr ⟨rfl,rfl⟩
    | succ k=>
     have d:Nat.ble (k+1) 0=false:=rfl;rw [d,cond_false] at b;have:(Value.agg #[])∈List.replicate ((k+1)*ei.size) (Value.agg #[]):=List.mem_replicate.2 ⟨Qj7 (by omega) hz,rfl⟩;have:=b _ this;cases this
   ·left;obtain ⟨h,rfl⟩:∃h,xc=h+1:=⟨xc-1,by omega⟩;refine ⟨⟨β s,0,none⟩,rfl,fun j v f=>?_⟩
    cases d:Nat.ble k (h+1) with
    | false=>
     rw [d,cond_false] at b f;have hm:=Qv1 f;have:=b v hm;rw [Qf9 hm] at this;cases this
    | true=>
     rw [d,cond_true] at b f;have i:=sC b f;have l:ws≠[]:=fun e=>by rw [e] at i;simp at i
     rw [eu,cell_of_row (hM.boxes s _ g (dQ l))];exact i
 ·cases hsrc
theorem Ar (hM:Mod n V0 bw β0 st β a w V){e:TypeId}{ei:TI}{info:TypeInfo}{z:Value}(e5:ei.size=info.size)(e6:ei.bytes=info.bytes)(e7:ei.zero=z.cells.toList.map C.ofConst)
  {b x:SV}{old:Option Nat}{ba:OA}{vs:List Value}{m c:Nat}{src:OA×Nat ⊕ List Value}{size bytes:Nat}{ty:TypeId}
  (h:bX st.boxes e ei b x=.app old ba vs m c src size bytes ty) :
  size=info.size/\bytes=info.bytes/\ty=e/\info.bytes≠0/\info.size≠0/\z.cells.size=info.size /\
  (∃base,b.den β=.slice base m c/\((∃s,old=some s/\base=some ⟨β s,0,none⟩/\w.heap[β s]?=some (.cells vs.toArray e (0,0))/\∃b,st.boxes s=some b/\b.live)\/old=none/\base=ba)) /\
  ∃xa k xc,x.den β=.slice xa k xc/\((src=.inl (xa,k))\/∃xs,src=.inr xs/\xs.length=k*info.size/\((∀v∈xs,v.oneCell'=true)->(∃ad,xa=some ad/\∀j v,xs[j]?=some v->w.cell? (ad.add j)=some v)\/(xa=none/\k=0))):=by
 unfold bX at h;split at h
 ·cases h
 ·rename_i r q;split at h
  ·cases h
  ·rename_i f;simp only [Qm4,beq_eq,Qc3,not_or] at f;obtain ⟨⟨u,t⟩,p⟩:=f
   have p:ei.size=r.length:=by
    rcases g:Nat.beq ei.size r.length with _|_
    ·rw [g] at p;exact absurd rfl p
    ·exact beq_eq.1 g
   obtain ⟨y,-⟩:=dH (β:=β) e7;obtain ⟨d1,-⟩:=dT (β:=β) q;have i:z.cells.size=info.size:=by rw [←y,d1];simp [←p,e5]
   dsimp only at h;split at h
   ·cases h
   ·rename_i l d
    have g:(l=src/\ei.size=size/\ei.bytes=bytes/\e=ty)/\∃base,b.den β=.slice base m c/\((∃s,old=some s/\base=some ⟨β s,0,none⟩/\w.heap[β s]?=some (.cells vs.toArray e (0,0))/\∃b,st.boxes s=some b/\b.live)\/old=none/\base=ba):=by
     split at h
     ·simp only [Q.app.injEq] at h;obtain ⟨rfl,rfl,rfl,rfl,rfl,rfl,rfl,rfl,rfl⟩:=h;exact ⟨⟨rfl,rfl,rfl,rfl⟩,_,rfl,.inr ⟨rfl,rfl⟩⟩
     ·rename_i s H I;split at h
      ·rename_i A B D E;split at h
       ·rename_i he;obtain rfl:=beq_eq.1 he;simp only [Q.app.injEq] at h;obtain ⟨rfl,rfl,rfl,rfl,rfl,rfl,rfl,rfl,rfl⟩:=h;obtain ⟨F,G⟩:=lG hM D E;exact ⟨⟨rfl,rfl,rfl,rfl⟩,_,rfl,.inl ⟨s,rfl,rfl,F,G⟩⟩
       ·cases h
      ·cases h
     ·split at h
      ·split at h<;>cases h
      ·cases h
     ·cases h
    obtain ⟨⟨rfl,rfl,rfl,rfl⟩,g⟩:=g;refine ⟨e5,e6,rfl,by rw [←e6];exact u,by rw [←e5];exact t,i,g,?_⟩;split at d
    ·rename_i xa k xc;simp only [Qq2] at d;subst d;exact ⟨xa,k,xc,rfl,.inl rfl⟩
    ·rename_i s o k xc;exact CG (FL hM e5 d)
    ·rename_i s k xc;exact CF hM e5 t d
    ·cases d
theorem xD (hM:Mod n V0 bw β0 st β a w V){e:TypeId}{ei:TI}{info:TypeInfo}{z:Value}(e5:ei.size=info.size)(e6:ei.bytes=info.bytes)(e7:ei.zero=z.cells.toList.map C.ofConst)
  {b x:SV}{s:Nat}{vs:List Value}{m c:Nat}{src:OA×Nat ⊕ List Value}{size bytes:Nat}{ty:TypeId}
  (h:bX st.boxes e ei b x=.qZ s vs m c src size bytes ty) :
  size=info.size/\bytes=info.bytes/\ty=e/\info.bytes≠0/\info.size≠0/\z.cells.size=info.size /\
  (b.den β=.slice (mA (β s) c) m c/\st.boxes s=some ⟨.aN vs,e⟩) /\
  ∃xa k xc,x.den β=.slice xa k xc/\((src=.inl (xa,k))\/∃xs,src=.inr xs/\xs.length=k*info.size/\((∀v∈xs,v.oneCell'=true)->(∃ad,xa=some ad/\∀j v,xs[j]?=some v->w.cell? (ad.add j)=some v)\/(xa=none/\k=0))):=by
 unfold bX at h;split at h
 ·cases h
 ·rename_i r q;split at h
  ·cases h
  ·rename_i f;simp only [Qm4,beq_eq,Qc3,not_or] at f;obtain ⟨⟨u,t⟩,p⟩:=f
   have p:ei.size=r.length:=by
    rcases g:Nat.beq ei.size r.length with _|_
    ·rw [g] at p;exact absurd rfl p
    ·exact beq_eq.1 g
   obtain ⟨y,-⟩:=dH (β:=β) e7;obtain ⟨d1,-⟩:=dT (β:=β) q;have i:z.cells.size=info.size:=by rw [←y,d1];simp [←p,e5]
   dsimp only at h;split at h
   ·cases h
   ·rename_i l d
    have g:(l=src/\ei.size=size/\ei.bytes=bytes/\e=ty)/\b.den β=.slice (mA (β s) c) m c/\st.boxes s=some ⟨.aN vs,e⟩:=by
     split at h
     ·cases h
     ·split at h
      ·split at h<;>cases h
      ·cases h
     ·rename_i E F G;split at h
      ·rename_i A B D;split at h
       ·rename_i he;obtain rfl:=beq_eq.1 he;simp only [Q.qZ.injEq] at h;obtain ⟨rfl,rfl,rfl,rfl,rfl,rfl,rfl,rfl⟩:=h;exact ⟨⟨rfl,rfl,rfl,rfl⟩,rfl,D⟩
       ·cases h
      ·cases h
     ·cases h
    obtain ⟨⟨rfl,rfl,rfl,rfl⟩,g⟩:=g;refine ⟨e5,e6,rfl,by rw [←e6];exact u,by rw [←e5];exact t,i,g,?_⟩;split at d
    ·rename_i xa k xc;simp only [Qq2] at d;subst d;exact ⟨xa,k,xc,rfl,.inl rfl⟩
    ·rename_i s o k xc;exact CG (FL hM e5 d)
    ·rename_i s k xc;exact CF hM e5 t d
    ·cases d
theorem GS (hT:cI.ok P T)(hM:Mod n V0 bw β0 st β a w V){o:Oper}{K:St->View->Prop}{d:Nat}(hd:d<n){old:Option Nat}{ba:OA}{vs:List Value}{m c:Nat}{src:OA×Nat ⊕ List Value}{size bytes:Nat}{ty:TypeId}
  (h:aK T st.aY st.boxes o.op=.app old ba vs m c src size bytes ty)(hv:tv (.app old ba vs m c src size bytes ty) (some d) st V K) :
  ∃v w' st' β',(execOp a.eval o).run P w=.ok (.value v) w'/\Mod n V0 bw β0 st' β' (a.put (some d) v) w' V/\K st' V:=by
 obtain ⟨cl,L,pj⟩:=(eZ (T:=T) (ρ:=st.aY) (bx:=st.boxes) (op:=o.op)).2.2 (by rw [h];rfl);rw [L] at h;simp only [aK,pj] at h;split at h
 ·rename_i b x t t' D W;split at h
  ·rename_i i i' hi X;split at h
   ·rename_i e e' hk M;split at h
    ·rename_i ei BZ;obtain ⟨LJ,d0,z0,h1,E,h3,h4,-⟩:=aF (hT _ _ hi);obtain ⟨MQ,a4,Za,a5,Y,a6,Z,-⟩:=aF (hT _ _ X);obtain ⟨info,de,z,J,e2,S,e4,e5,e6,e7⟩:=aF (hT _ _ BZ);rw [h4] at hk;rw [Z] at M;obtain rfl:=aV hk;obtain rfl:=aV M;obtain ⟨rfl,rfl,rfl,l,F,p,⟨base,a0,hold⟩,G,k,xc,a1,C⟩:=Ar hM e5 e6 e7 h;obtain ⟨q1,q2⟩:=eY hM _ _ D;have f1:cl.argTypes=#[t,t']:=by apply Qb9;exact W
     have f2:cl.args.map a.eval=#[.slice base m c,.slice G k xc]:=by
      apply Qb9;rw [Qm8,q1];simp [a0,a1]
     have N:∀{v w'},(Builtin.append_ #[t,t] o.type #[.slice base m c,.slice G k xc]).run P w=.ok v w'->(execOp a.eval o).run P w=.ok (.value v) w':=by
      intro v w' hr;simp only [execOp,L,resolve,pj,pure_bind,invoke,f1,f2,builtin];refine dk ?_;rw [yB E Y];exact hr
     have fin:∀{v w' st' β'},(Builtin.append_ #[t,t] o.type #[.slice base m c,.slice G k xc]).run P w=.ok v w'->Mod n V0 bw β0 st' β' (a.put (some d) v) w' V->K st' V ->
       ∃v w' st' β',(execOp a.eval o).run P w=.ok (.value v) w'/\Mod n V0 bw β0 st' β' (a.put (some d) v) w' V/\K st' V:=fun q u A=>⟨_,_,_,_,N q,u,A⟩
     have Ld:∀xs,V.sl G xs->xs.length=k*info.size->(∀v∈xs,v.oneCell'=true)->Src w G k info.size xs:=by
      intro xs j f h1;refine ⟨f,h1,?_⟩
      cases G with
      | some ad=>exact .inl ⟨ad,rfl,vN hM j⟩
      | none=>
       refine .inr ⟨rfl,?_⟩
       have:xs=[]:=by
        cases xs with
        | nil=>rfl
        | cons y r=>obtain ⟨ad,e,-⟩:=j 0 y (by simp);cases e
       rw [this] at f;rcases Qs9.1 f.symm with h|h
       ·exact h
       ·exact absurd h F
     rcases hold with ⟨s,rfl,rfl,hg,O⟩|⟨rfl,rfl⟩
     ·rcases C with rfl|⟨xs,rfl,f,g⟩
      ·obtain ⟨xs,j,f,hv⟩:=hv;obtain ⟨v,w',st',β',q,u,A⟩:=uj (ty:=o.type) (xc:=xc) hM hd E J S p l hg O (Ld xs j f hv.2.2.2.2.1) hv;exact fin q u A
      ·have H:xs.length / info.size=k:=by rw [f];exact Qg5 _ (by omega)
       simp only [tv,H] at hv;obtain ⟨v,w',st',β',q,u,A⟩:=uj (ty:=o.type) (xc:=xc) hM hd E J S p l hg O ⟨f,hv.2.2.2.2.1,g hv.2.2.2.2.1⟩ hv;exact fin q u A
     ·obtain ⟨vs,OX,Q,B,R,hv⟩:=hv;rcases C with rfl|⟨xs,rfl,f,g⟩
      ·obtain ⟨xs,j,f,a2,a3⟩:=hv;by_cases I:k=0
       ·have U:=a2 I;subst I;refine fin (v:=.slice base m c) (w':=w) ?_ (hM.put (x:=.c (.v (.slice base m c))) hd rfl (fun s hs=>by cases hs)) U
        cases G with
        | none=>exact ui E J base m c xc B
        | some ad=>cases base<;>simp [Builtin.append_,aj E,aJ J,Builtin.lenOf,Builtin.firstCells,loadCells,loadCellsFrom,storeCells,B]
       ·have U:=a3 I;obtain ⟨v,w',st',β',q,u,A⟩:=uk (ty:=o.type) (xc:=xc) hM hd E J S p l OX Q B R F (Ld xs j f U.2.2.2.1) U;exact fin q u A
      ·have H:xs.length / info.size=k:=by rw [f];exact Qg5 _ (by omega)
       dsimp only at hv;rw [H] at hv;obtain ⟨v,w',st',β',q,u,A⟩:=uk (ty:=o.type) (xc:=xc) hM hd E J S p l OX Q B R F ⟨f,hv.2.2.2.1,g hv.2.2.2.1⟩ hv;exact fin q u A
    ·cases h
   ·cases h
  ·cases h
 ·cases h
theorem Et (hT:cI.ok P T)(hM:Mod n V0 bw β0 st β a w V){o:Oper}{K:St->View->Prop}{d:Nat}(hd:d<n){s:Nat}{vs:List Value}{m c:Nat}{src:OA×Nat ⊕ List Value}{size bytes:Nat}{ty:TypeId}
  (h:aK T st.aY st.boxes o.op=.qZ s vs m c src size bytes ty)(hv:tv (.qZ s vs m c src size bytes ty) (some d) st V K) :
  ∃v w' st' β',(execOp a.eval o).run P w=.ok (.value v) w'/\Mod n V0 bw β0 st' β' (a.put (some d) v) w' V/\K st' V:=by
 obtain ⟨U,u,W⟩:=(eZ (T:=T) (ρ:=st.aY) (bx:=st.boxes) (op:=o.op)).2.2 (by rw [h];rfl);rw [u] at h;simp only [aK,W] at h;split at h
 ·rename_i b x t t' l J;split at h
  ·rename_i i i' hi L;split at h
   ·rename_i e e' X A;split at h
    ·rename_i ei BZ;obtain ⟨LJ,d0,z0,Y,M,h3,h4,-⟩:=aF (hT _ _ hi);obtain ⟨MQ,a0,Za,a1,N,a2,O,-⟩:=aF (hT _ _ L);obtain ⟨info,de,z,Z,e2,e3,e4,e5,e6,e7⟩:=aF (hT _ _ BZ);rw [h4] at X;rw [O] at A;obtain rfl:=aV X;obtain rfl:=aV A;obtain ⟨rfl,rfl,rfl,B,p,C,⟨Q,D⟩,q,k,xc,R,E⟩:=xD hM e5 e6 e7 h;obtain ⟨q1,q2⟩:=eY hM _ _ l;have f1:U.argTypes=#[t,t']:=by apply Qb9;exact J
     have f2:U.args.map a.eval=#[.slice (mA (β s) c) m c,.slice q k xc]:=by
      apply Qb9;rw [Qm8,q1];simp [Q,R]
     have F:∀{v w'},(Builtin.append_ #[t,t] o.type #[.slice (mA (β s) c) m c,.slice q k xc]).run P w=.ok v w'->(execOp a.eval o).run P w=.ok (.value v) w':=by
      intro v w' hr;simp only [execOp,u,resolve,W,pure_bind,invoke,f1,f2,builtin];refine dk ?_;rw [yB M N];exact hr
     have fin:∀{v w' st' β'},(Builtin.append_ #[t,t] o.type #[.slice (mA (β s) c) m c,.slice q k xc]).run P w=.ok v w'->Mod n V0 bw β0 st' β' (a.put (some d) v) w' V->K st' V ->
       ∃v w' st' β',(execOp a.eval o).run P w=.ok (.value v) w'/\Mod n V0 bw β0 st' β' (a.put (some d) v) w' V/\K st' V:=fun G H I=>⟨_,_,_,_,F G,H,I⟩
     have Ld:∀xs,V.sl q xs->xs.length=k*info.size->(∀v∈xs,v.oneCell'=true)->Src w q k info.size xs:=by
      intro xs g f Y;refine ⟨f,Y,?_⟩
      cases q with
      | some ad=>exact .inl ⟨ad,rfl,vN hM g⟩
      | none=>
       refine .inr ⟨rfl,?_⟩
       have:xs=[]:=by
        cases xs with
        | nil=>rfl
        | cons y r=>obtain ⟨ad,e,-⟩:=g 0 y (by simp);cases e
       rw [this] at f;rcases Qs9.1 f.symm with h|h
       ·exact h
       ·exact absurd h p
     rcases E with rfl|⟨xs,rfl,f,j⟩
     ·obtain ⟨xs,g,f,hv⟩:=hv;obtain ⟨v,w',st',β',G,H,I⟩:=vq (ty:=o.type) (xc:=xc) hM hd M Z e3 C B p D (Ld xs g f hv.2.2.2.2.1) hv;exact fin G H I
     ·have S:xs.length / info.size=k:=by rw [f];exact Qg5 _ (by omega)
      simp only [tv,S] at hv;obtain ⟨v,w',st',β',G,H,I⟩:=vq (ty:=o.type) (xc:=xc) hM hd M Z e3 C B p D ⟨f,hv.2.2.2.2.1,j hv.2.2.2.2.1⟩ hv;exact fin G H I
    ·cases h
   ·cases h
  ·cases h
 ·cases h
theorem Cu (hT:cI.ok P T)(hM:Mod n V0 bw β0 st β a w V){o:Oper}{K:St->View->Prop}{next:Act->World->Prop}{Q:Exit->Act->World->Prop}
  (hd:∀d,o.dst=some d->d<n)(hv:tv (aK T st.aY st.boxes o.op) o.dst st V K)
  (hK:∀st' β' a' w' V',Mod n V0 bw β0 st' β' a' w' V'->K st' V'->next a' w'):o.wp P a w next Q:=by
 unfold Oper.wp;generalize hq:aK T st.aY st.boxes o.op=q at hv
 cases q with
 | fail=>exact hv.elim
 | ret sc x=>
  obtain ⟨g,h⟩:=(cW sc _).1 hv;obtain ⟨e,f⟩:=GV hT hM hq g;rw [e];exact hK _ _ _ _ _ (hM.Em hd rfl f) h
 | new sc b x=>
  simp only [tv] at hv
  cases hdst:o.dst with
  | none=>rw [hdst] at hv;exact hv.elim
  | some d=>
   rw [hdst] at hv;dsimp only at hv;split at hv
   ·rename_i u;obtain ⟨g,h⟩:=(cW sc _).1 hv;obtain ⟨v,e,f,i⟩:=GU hT hM hq g;rw [e];have j:=hM.new (hd d hdst) u i
    have:=j.put (x:=x d) (v:=v) (hd d hdst) (f d).1 (by
     intro s k;rw [(f d).2] at k;simp at k;subst k;exact ⟨b,by rw [ao,if_pos rfl]⟩)
    simp only [Oper.upon_value,hdst];exact hK _ _ _ _ _ this h
   ·exact hv.elim
 | tu sc s b=>
  simp only [tv] at hv
  cases hdst:o.dst with
  | some d=>rw [hdst] at hv;exact hv.elim
  | none=>
   rw [hdst] at hv;dsimp only at hv;obtain ⟨g,h⟩:=(cW sc _).1 hv;obtain ⟨z,w',e,rx,f⟩:=GW hT hM hq g;rw [e];rcases rx with rfl|⟨v,rfl⟩
   ·simp only [Oper.upon_skip,hdst];exact hK _ _ _ _ _ f h
   ·simp only [Oper.upon_value,hdst];exact hK _ _ _ _ _ f h
 | rd p sh=>
  obtain ⟨x,g,h,r⟩:=uc.dN sh hv;have t:(∃c,x=.c c/\∃s',sh=.one s')\/∃cs l,x=.agg cs/\sh=.agg l/\cs.length=l.length:=h;obtain ⟨e,f⟩:=Jm hT hM hq g t r;rw [e];exact hK _ _ _ _ _ (hM.Em hd rfl (bN g)) f
 | nk vs of size sh=>
  obtain ⟨x,g,h,r,y⟩:=uc.dN sh hv;have e:=Ct hT hM hq g h r;rw [e];exact hK _ _ _ _ _ (hM.Em hd rfl (bN g)) y
 | qZ s vs m c src size bytes ty=>
  cases hdst:o.dst with
  | none=>rw [hdst] at hv;exact hv.elim
  | some d=>
   rw [hdst] at hv;obtain ⟨v,w',st',β',e,f,i⟩:=Et hT hM (hd d hdst) hq hv;rw [e];simp only [Oper.upon_value,hdst];exact hK _ _ _ _ _ f i
 | app old ba vs m c src size bytes ty=>
  cases hdst:o.dst with
  | none=>rw [hdst] at hv;exact hv.elim
  | some d=>
   rw [hdst] at hv;obtain ⟨v,w',st',β',e,f,i⟩:=GS hT hM (hd d hdst) hq hv;rw [e];simp only [Oper.upon_value,hdst];exact hK _ _ _ _ _ f i
end Go.Eng
