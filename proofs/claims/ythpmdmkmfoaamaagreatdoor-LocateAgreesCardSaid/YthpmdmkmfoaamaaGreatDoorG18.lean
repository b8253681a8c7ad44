import Derived.Test.YthpmdmkmfoaamaaGreatDoorG17
import Derived.Test.YthpmdmkmfoaamaaGreatDoorG5
import Derived.Test.YthpmdmkmfoaamaaGreatDoorG14
import Derived.Test.YthpmdmkmfoaamaaGreatDoorG9
import Derived.Test.YthpmdmkmfoaamaaGreatDoorG15
set_option linter.unusedVariables false
open Go.IntKind (i64 u64 u32)
namespace Go.bK
def View.bare (V:View)(b:Nat):View:=⟨V.w,fun x=>V.H x/\x≠b,fun x=>V.X x/\x≠b,fun x h=>V.hH x h.1,fun x h=>⟨V.hX x h.1,h.2⟩⟩
theorem View.HV (V:View)(b:Nat):V.Le (V.bare b):=fun _ _ h=>⟨fun hh=>h.1 hh.1,h.2⟩
theorem ab.bare {P:Program}{f:FuncId}{args:Array Value}{V:View}{b:Nat}{R:Value->View->Prop}(hs:b<V.w.heap.size)(h:ab P f args (V.bare b) R) :
  ab P f args V fun r V'=>V'.w.heap[b]?=V.w.heap[b]?/\R r (V'.bare b):=by
 refine ⟨h.1,h.2.mono fun _ w' ⟨r,he,hx,hr⟩=>⟨r,he,⟨hx.size,fun x h1 h2=>hx.bE x h1 fun h=>h2 h.1,hx.os,hx.tape,hx.out⟩,hx.bE b hs (fun h=>h.2 rfl),hr⟩⟩
theorem View.f_ {V:View}{b:Nat}{a:Addr}{v:Value}(h:(V.bare b).at a v)(hb:a.block≠b):V.at a v:=⟨fun hh=>h.1 ⟨hh,hb⟩,h.2⟩
def At (V:View)(b:Nat):Prop:=∃(cs:Array Value)(ty:TypeId)(m:Nat×Nat),V.w.heap[b]?=some (.cells cs ty m)/\∀v∈cs,∀k z,v≠.int k z
theorem At.ne {V:View}{b:Nat}(h:At V b){a:Addr}{k:IntKind}{z:Int}(ha:(V.bare b).at a (.int k z)):a.block≠b:=by
 obtain ⟨cs,ty,m,hb,hn⟩:=h
 intro e
 have h2:=ha.2
 unfold World.cell? at h2
 rw [e] at h2
 have hb':(V.bare b).w.heap[b]?=some (.cells cs ty m):=hb
 rw [hb'] at h2
 dsimp only at h2
 split at h2
 ·cases h2
 ·obtain ⟨hi,e2⟩:=Array.getElem?_eq_some_iff.1 h2
  exact hn _ (e2▸Array.getElem_mem hi) k z rfl
end Go.bK
namespace Go.Proofs.Tryz
open Go.bK Go.fV
theorem RD.f_ {V:View}{b:Nat}(hn:At V b){p:OA}{n c:Nat}{ds:List Nat}(h:RD (V.bare b) p n c ds):RD V p n c ds:=by
 refine ⟨h.len,h.cap,fun i v hv=>?_,h.eI,h.Br⟩
 obtain ⟨ad,e,ha⟩:=h.sl i v hv
 have:∃d:Int,v=.int .u32 d:=by
  unfold aF at hv
  rw [List.getElem?_map] at hv
  cases hd:ds[i]? with
  | none=>rw [hd] at hv;cases hv
  | some d=>rw [hd] at hv;cases hv;exact ⟨_,rfl⟩
 obtain ⟨d,rfl⟩:=this
 exact ⟨ad,e,View.f_ ha (hn.ne ha)⟩
theorem RL.f_ {V:View}{b:Nat}(hn:At V b){v:Value}{x y z:Int}(h:RL (V.bare b) v x y z):RL V v x y z:=by
 obtain ⟨_,_,_,_,_,_,_,_,_,e,h1,h2,h3⟩:=h
 exact ⟨_,_,_,_,_,_,_,_,_,e,RD.f_ hn h1,RD.f_ hn h2,RD.f_ hn h3⟩
theorem xA (a:Addr)(i:Nat):(a.add i).block=a.block:=by
 unfold Addr.add;split<;>rfl
theorem AT.f_ {V:View}{b:Nat}(hn:At V b){v:Value}{root:Int}{l:List Nd}(h:AT (V.bare b) v root l)(hk:∀x∈l,j9 x.ln=true):AT V v root l:=by
 obtain ⟨q,n,c,rfl,hs⟩:=h
 refine ⟨q,n,c,rfl,hs.len,hs.cap,?_,hs.Br⟩
 obtain ⟨vs,hsl,hr⟩:=hs.row
 cases l with
 | nil=>exact ⟨[],fun i v h=>by simp at h,fun i d h=>by simp at h⟩
 | cons d l=>
  have hne:∀ad,q=some ad->ad.block≠b:=by
   intro ad e
   obtain ⟨b1,p1,n1,c1,b2,p2,n2,c2,b3,p3,n3,c3,h1,-⟩:=hr 0 d rfl
   obtain ⟨T3,e',ha⟩:=hsl _ _ (h1 6 _ rfl)
   rw [e] at e';cases e'
   have:=hn.ne ha
   rwa [xA] at this
  refine ⟨vs,fun i v hv=>?_,fun i x hx=>?_⟩
  ·obtain ⟨ad,e,ha⟩:=hsl i v hv
   exact ⟨ad,e,View.f_ ha (by rw [xA];exact hne ad e)⟩
  ·obtain ⟨b1,p1,n1,c1,b2,p2,n2,c2,b3,p3,n3,c3,h1,h2⟩:=hr i x hx
   exact ⟨b1,p1,n1,c1,b2,p2,n2,c2,b3,p3,n3,c3,h1,.inl (RL.f_ hn (h2.ok (hk x (List.mem_of_getElem? hx))))⟩
theorem HC:∀{t:Tr} {k:Nat},t.lG Ft->∀x∈wr k t,j9 x.ln=true
 | .leaf _,_,_,x,h=>by cases h
 | .node l a b,k,⟨h1,h2,h3⟩,x,h=>by
  simp only [wr] at h
  rcases List.mem_cons.1 h with rfl|h
  ·exact h1.1
  ·rcases List.mem_append.1 h with h|h
   ·exact HC h2 x h
   ·exact HC h3 x h
theorem oA {V:View}{rb:Nat}{i:Bool}{b1:Bool}{p1:OA}{n1 c1:Nat}{b2:Bool}{p2:OA}{n2 c2:Nat}{b3:Bool}{p3:OA}{n3 c3:Nat}{pl pr:OA}{ln:L3}{x y:Tr}
  (hw:V.w.heap[rb]?=some (.cells #[.bool false,.bool i,.bool b1,.slice p1 n1 c1,.bool b2,.slice p2 n2 c2,.bool b3,.slice p3 n3 c3,.pointer pl,.pointer pr] 64 (0,0)))
  (hl:RL V (.agg #[.bool b1,.slice p1 n1 c1,.bool b2,.slice p2 n2 c2,.bool b3,.slice p3 n3 c3]) ln.1 ln.2.1 ln.2.2)(hx:RW V pl x)(hy:RW V pr y)(ha:(Tr.node ln x y).lG Ft)(hs:(Tr.node ln x y).size<=1000000) :
  ab prog 14 #[.pointer (some ⟨rb,0,none⟩)] V fun r V'=>V'.w.heap[rb]?=some (.cells #[.bool false,.bool i,.bool b1,.slice p1 n1 c1,.bool b2,.slice p2 n2 c2,.bool b3,.slice p3 n3 c3,.pointer pl,.pointer pr] 64 (0,0))/\AT V' r (rt 0 (.node ln x y)) (wr 0 (.node ln x y)):=by
 have hsz:rb<V.w.heap.size:=(Array.getElem?_eq_some_iff.1 hw).1
 have l0:=V.HV rb
 refine (ab.bare hsz (nT (V:=V.bare rb) (p:=some ⟨rb,0,none⟩) (t:=.node ln x y) ⟨rb,i,b1,p1,n1,c1,b2,p2,n2,c2,b3,p3,n3,c3,pl,pr,rfl,⟨fun h=>h.2 rfl,hw⟩,hl.le l0,hx.le l0,hy.le l0⟩ ha hs)).mono ?_
 rintro r V' l' ⟨h1,h2⟩
 rw [hw] at h1
 refine ⟨h1,AT.f_ ⟨_,_,_,h1,?_⟩ h2 (HC ha)⟩
 intro v hv k z e
 subst e
 simp at hv
end Go.Proofs.Tryz
namespace Go.Proofs.Tryz
open Go.bK
set_option maxRecDepth 100000
end Go.Proofs.Tryz
namespace Go.Proofs.Tryz
open Go.bK Go.fV
def LL:L3:=(0,1,0)
theorem Jp:j9 LL=true:=by decide
theorem vt {z:Int}(k:Nat)(hk:k≠0)(h:z.natAbs<=1):z.natAbs<2^k:=Nat.lt_of_le_of_lt h (Nat.one_lt_two_pow hk)
theorem Kc (k:Nat)(hk:k≠0):LL.1.natAbs<2^k/\LL.2.1.natAbs<2^k/\LL.2.2.natAbs<2^k:=⟨vt k hk (by decide),vt k hk (by decide),vt k hk (by decide)⟩
theorem Jo:Bd LL:=Kc 1000 (by decide)
theorem Fu {V:View}{v:Value}{a b c:Int}(h:RL V v a b c):∃(b1:Bool)(p1:OA)(n1 c1:Nat)(b2:Bool)(p2:OA)(n2 c2:Nat)(b3:Bool)(p3:OA)(n3 c3:Nat),v=.agg #[.bool b1,.slice p1 n1 c1,.bool b2,.slice p2 n2 c2,.bool b3,.slice p3 n3 c3]:=by
 obtain ⟨p,n,s,p',n',s',q,m,e,rfl,-⟩:=h
 exact ⟨_,_,_,_,_,_,_,_,_,_,_,_,rfl⟩
theorem za {V:View}{u w:Value}(hp:RP V u ((0:Int):Rat) ((0:Int):Rat))(hq:RP V w ((1:Int):Rat) ((0:Int):Rat)) :
  ab prog 50 #[u,w] V fun r V'=>∃l,r=.tuple #[l,.bool true]/\RL V' l LL.1 LL.2.1 LL.2.2:=by
 have s0:Sz 1 ((0:Int):Rat):=by unfold Sz;decide
 have s1:Sz 1 ((1:Int):Rat):=zQ
 refine (lK hp hq s0 s0 s1 s0 (by omega) (by omega)).mono ?_
 have e1:(wg ((0:Int):Rat) ((0:Int):Rat) ((1:Int):Rat) ((0:Int):Rat)).1.num=0:=by decide +kernel
 have e2:(wg ((0:Int):Rat) ((0:Int):Rat) ((1:Int):Rat) ((0:Int):Rat)).2.1.num=1:=by decide +kernel
 have e3:(wg ((0:Int):Rat) ((0:Int):Rat) ((1:Int):Rat) ((0:Int):Rat)).2.2.num=0:=by decide +kernel
 rw [e1,e2,e3]
 rintro r V' _ ⟨-,h⟩
 exact h (by omega)
structure PZ (V:View) (y z:Value):Prop where
 inv:sC V 0 y
 D5:sC V 1 z
 yE:Mr y
 zE:Mr z
theorem PZ.le {V V':View}{y z:Value}(h:PZ V y z)(l:V.Le V'):PZ V' y z:=⟨h.inv.le l,h.D5.le l,h.yE,h.zE⟩
theorem pX:IsIface .nilIface/\cX .nilIface=true:=⟨.inl rfl,rfl⟩
theorem AT.leaf {V:View}(i:Bool):AT V (.agg #[.int .i64 (rt 0 (.leaf i)),.slice none 0 0]) (rt 0 (.leaf i)) (wr 0 (.leaf i)):=⟨_,_,_,rfl,NS.nil⟩
theorem pT {p:L3->Prop}:∀{t:Tr} {k:Nat},t.lG p->∀x∈wr k t,p x.ln
 | .leaf _,_,_,x,h=>by simp [wr] at h
 | .node l a b,k,⟨h1,h2,h3⟩,x,h=>by
  simp only [wr,List.mem_cons,List.mem_append] at h
  rcases h with rfl|h|h
  ·exact h1
  ·exact pT h2 x h
  ·exact pT h3 x h
def Aq:Tr:=.node LL (.leaf true) (.leaf false)
theorem LH:Aq.lG Ft:=⟨⟨Jp,Jo⟩,trivial,trivial⟩
theorem kX {t:Tr}{p:Rat×Rat}{c:Int}(h:kJ t p c)(hm:ay.cM t p=[]):c=if (ay.fC t p (1,0)).1 then 2 else 0:=by
 have:=h [] [(1,0)] ⟨fun r h=>(by cases h),fun r h=>(by cases h),List.Pairwise.nil⟩ (.inl ⟨rfl,rfl⟩) (by rw [hm];intro l h;cases h)
 rw [this]
 unfold ay.anyS ay.iD AU
 simp only [List.any_cons,List.any_nil,Bool.or_false,List.all_cons,List.all_nil,Bool.and_true]
 cases (ay.fC t p (1,0)).1<;>rfl
theorem JX:ay.Am [(1,0),(-1,0)]:=by
 refine ⟨fun r hr=>?_,fun r hr=>?_,?_⟩
 ·simp only [List.mem_cons,List.not_mem_nil,or_false] at hr
  rcases hr with rfl|rfl
  ·exact .inl (by decide)
  ·exact .inl (by decide)
 ·simp only [List.mem_cons,List.not_mem_nil,or_false] at hr
  rcases hr with rfl|rfl
  ·exact ⟨(-1,0),by simp,1,by decide,by decide +kernel,by decide +kernel⟩
  ·exact ⟨(1,0),by simp,1,by decide,by decide +kernel,by decide +kernel⟩
 ·refine List.pairwise_cons.2 ⟨fun x hx=>?_,List.pairwise_singleton ..⟩
  rcases List.mem_singleton.1 hx with rfl
  exact .inl ⟨.inr ⟨rfl,by decide⟩,.inr ⟨rfl,by decide⟩⟩
theorem uL {V:View}{v w:Value}(h:AT V v (rt 0 Aq) (wr 0 Aq)){x y:Int}(hw:Kd V w (x:Rat) (y:Rat))(hx:-40<=x/\x<=40)(hy:-40<=y/\y<=40){e:Value}(he:sC V 0 e) :
  ab prog 13 #[v,w] V fun r V'=>∃c,r=.tuple #[.int .i64 c,.nilIface]/\kJ Aq ((x:Rat),(y:Rat)) c:=by
 have sx:=rz hx
 have sy:=rz hy
 have ho:nI (wr 0 Aq) (rt 0 Aq)=some Aq:=GQ ⟨Jp,trivial,trivial⟩ (by decide)
 refine (mi (p:=((x:Rat),(y:Rat))) (pT (p:=Bd) (t:=Aq) ⟨Jo,trivial,trivial⟩) h (wc.of (p:=((x:Rat),(y:Rat))) hw sx sy (by omega)) (sx.mono (by omega)) (sy.mono (by omega)) (fun t ht=>by rw [ho] at ht;cases ht;decide) (fun t ht n c=>by rw [ho] at ht;cases ht;exact LA n c _ (by have:=pV Aq ((x:Rat),(y:Rat));rw [yr];have e:Aq.size=1:=rfl;omega)) he).mono ?_
 rintro r V' _ ⟨-,h2⟩
 exact h2 Aq ho
theorem EA {V:View}{e:Value}(he:sC V 0 e):ab prog 16 #[] V fun r V'=>r=.bool true:=by
 refine vN V _ fun V1 l1=>(dF 0 0 (by omega) (by omega) (by omega) (by omega)).mono ?_
 rintro r V2 l2 hp
 have hp0:=hp
 obtain ⟨_,_,_,_,_,_,_,_,_,_,_,_,rfl,-⟩:=hp
 refine ⟨_,_,_,_,_,_,_,_,_,_,_,_,_,_,rfl,fun V3 l3=>(dF 1 0 (by omega) (by omega) (by omega) (by omega)).mono ?_⟩
 rintro r V4 l4 hq
 have hq0:=hq
 obtain ⟨_,_,_,_,_,_,_,_,_,_,_,_,rfl,-⟩:=hq
 refine ⟨_,_,_,_,_,_,_,_,_,_,_,_,_,_,rfl,fun V5 l5=>(za (hp0.le (l3.trans (l4.trans l5))) (hq0.le l5)).mono ?_⟩
 rintro r V6 l6 ⟨l,rfl,hl⟩
 obtain ⟨b1,u1,v1,w1,b2,u2,v2,w2,b3,u3,v3,w3,rfl⟩:=Fu hl
 have KZ:=l1.trans (l2.trans (l3.trans (l4.trans (l5.trans l6))))
 refine ⟨_,_,_,_,_,_,_,_,_,_,_,_,_,rfl,fun V7 l7=>(hU true).mono ?_⟩
 rintro r V8 l8 ⟨pa,rfl,ha⟩
 refine ⟨_,rfl,fun V9 l9=>(hU false).mono ?_⟩
 rintro r g_ l10 ⟨pb,rfl,hb⟩
 have zk:=l7.trans (l8.trans (l9.trans l10))
 refine ⟨_,rfl,fun gW bI bk e1 e2=>(oA (V:=gW.au [bk]) (ln:=LL) (x:=.leaf true) (y:=.leaf false) e1 (RL.le (V:=V6) (V':=gW.au _) hl fun b o h=>(zk.trans bI) b o h) (RW.le (V:=V8) (V':=gW.au _) (fun b o h=>(l9.trans (l10.trans bI)) b o h) ha) (RW.le (V:=g_) (V':=gW.au _) (fun b o h=>bI b o h) hb) LH (by decide)).mono ?_⟩
 rintro r lH cw ⟨e3,hat⟩
 have M3:AT lH r (rt 0 Aq) (wr 0 Aq):=hat
 clear hat
 have KD:=M3
 obtain ⟨q,n,c,rfl,-⟩:=M3
 have NF:gW.Le lH:=fun b o h=>cw b o h
 have LS:=KZ.trans (zk.trans (bI.trans NF))
 refine ⟨_,_,_,_,rfl,_,_,_,_,_,_,_,_,_,_,_,_,_,_,_,_,e3,fun lU cd=>(dF 0 1 (by omega) (by omega) (by omega) (by omega)).mono ?_⟩
 have cd:lH.Le lU:=fun b o h=>cd b o h
 rintro r po dN hp
 have hp0:=hp
 obtain ⟨_,_,_,_,_,_,_,_,_,_,_,_,rfl,-⟩:=hp
 refine ⟨_,_,_,_,_,_,_,_,_,_,_,_,_,_,rfl,fun nF dk=>(gv (hp0.le dk) (rz (by omega)) (rz (by omega)) (by omega)).mono ?_⟩
 rintro r mW dm hw
 have hw0:=hw
 obtain ⟨_,_,_,_,_,_,_,_,_,_,_,_,_,_,rfl,-⟩:=hw
 have Gk:=cd.trans (dN.trans (dk.trans dm))
 refine ⟨_,_,_,_,_,_,_,_,_,_,_,_,_,_,rfl,fun nN cP=>(uL (KD.le (Gk.trans cP)) (hw0.le cP) (by omega) (by omega) (he.le (LS.trans (Gk.trans cP)))).mono ?_⟩
 rintro r qI dZ ⟨k1,rfl,hk1⟩
 have UT:=kX hk1 (by decide +kernel)
 rw [show (ay.fC Aq (((0:Int):Rat),((1:Int):Rat)) (1,0)).1=true by decide +kernel,if_pos rfl] at UT
 subst UT
 have NG:=Gk.trans (cP.trans dZ)
 refine ⟨_,_,rfl,fun tq dR=>(dF 5 0 (by omega) (by omega) (by omega) (by omega)).mono ?_⟩
 rintro r An iQ hp
 have hp0:=hp
 obtain ⟨_,_,_,_,_,_,_,_,_,_,_,_,rfl,-⟩:=hp
 refine ⟨_,_,_,_,_,_,_,_,_,_,_,_,_,_,rfl,fun tu eh=>(gv (hp0.le eh) (rz (by omega)) (rz (by omega)) (by omega)).mono ?_⟩
 rintro r wi kq hw
 have hw0:=hw
 obtain ⟨_,_,_,_,_,_,_,_,_,_,_,_,_,_,rfl,-⟩:=hw
 have Gm:=NG.trans (dR.trans (iQ.trans (eh.trans kq)))
 refine ⟨_,_,_,_,_,_,_,_,_,_,_,_,_,_,rfl,fun tM fB=>(uL (KD.le (Gm.trans fB)) (hw0.le fB) (by omega) (by omega) (he.le (LS.trans (Gm.trans fB)))).mono ?_⟩
 rintro r Cu pg ⟨k2,rfl,hk2⟩
 have Pz:=hk2 [(1,0),(-1,0)] (jF [(1,0),(-1,0)]) JX (rv JX) (by
  intro l hl
  have:ay.cM Aq (((5:Int):Rat),((0:Int):Rat))=[LL]:=by decide +kernel
  rw [this] at hl
  rcases List.mem_singleton.1 hl with rfl
  exact ⟨(1,0),by simp,1,by decide,by decide +kernel⟩)
 rw [show ay.anyS Aq (((5:Int):Rat),((0:Int):Rat)) (jF [(1,0),(-1,0)])=true by decide +kernel,show ay.iD Aq (((5:Int):Rat),((0:Int):Rat)) (jF [(1,0),(-1,0)])=false by decide +kernel] at Pz
 have Pz:k2=1:=Pz
 subst Pz
 have NH:=Gm.trans (fB.trans pg)
 refine ⟨_,_,rfl,fun DN gF=>(dF 0 (-1) (by omega) (by omega) (by omega) (by omega)).mono ?_⟩
 rintro r Fv nV hp
 have hp0:=hp
 obtain ⟨_,_,_,_,_,_,_,_,_,_,_,_,rfl,-⟩:=hp
 refine ⟨_,_,_,_,_,_,_,_,_,_,_,_,_,_,rfl,fun Js lY=>(gv (hp0.le lY) (rz (by omega)) (rz (by omega)) (by omega)).mono ?_⟩
 rintro r HR Bk hw
 have hw0:=hw
 obtain ⟨_,_,_,_,_,_,_,_,_,_,_,_,_,_,rfl,-⟩:=hw
 have JR:=NH.trans (gF.trans (nV.trans (lY.trans Bk)))
 refine ⟨_,_,_,_,_,_,_,_,_,_,_,_,_,_,rfl,fun LX tB=>(uL (KD.le (JR.trans tB)) (hw0.le tB) (by omega) (by omega) (he.le (LS.trans (JR.trans tB)))).mono ?_⟩
 rintro r Fw uN ⟨k3,rfl,hk3⟩
 have PA:=kX hk3 (by decide +kernel)
 rw [show (ay.fC Aq (((0:Int):Rat),((-1:Int):Rat)) (1,0)).1=false by decide +kernel] at PA
 have PA:k3=0:=PA
 subst PA
 exact ⟨_,_,rfl,pX.1,fun _=>⟨pX.1,fun _=>⟨pX.1,fun _=>⟨fun _=>⟨fun _ Mt Cq=>rfl,(fun h=>by cases h)⟩,(fun h=>by cases h)⟩,(fun h=>by rw [pX.2] at h;cases h)⟩,(fun h=>by rw [pX.2] at h;cases h)⟩,(fun h=>by rw [pX.2] at h;cases h)⟩
def uu (p:Rat×Rat)(l:L3):List (Rat×Rat):=if cB l p.1 p.2=0 then [ay.cC l,((-(ay.cC l).1,-(ay.cC l).2):Rat×Rat)] else []
def eM (p:Rat×Rat)(ls:List L3):List (Rat×Rat):=ls.flatMap (uu p)
theorem CP {p:Rat×Rat}{ls:List L3}{i:Nat}(h:i<ls.length):eM p (ls.take (i+1))=eM p (ls.take i)++uu p ls[i]:=by
 unfold eM
 rw [←List.take_append_getElem h,List.flatMap_append]
 simp
theorem xX (p:Rat×Rat)(ls:List L3):(eM p ls).length<=2*ls.length:=by
 induction ls with
 | nil=>exact Nat.le_refl _
 | cons l r ih=>
  have:eM p (l::r)=uu p l++eM p r:=rfl
  rw [this,List.length_append,List.length_cons]
  have:(uu p l).length<=2:=by unfold uu;split<;>simp
  omega
theorem ng {p:Rat×Rat}{ls:List L3}{r:Rat×Rat}(h:r∈eM p ls):∃l∈ls,cB l p.1 p.2=0/\(r=ay.cC l\/r=(-(ay.cC l).1,-(ay.cC l).2)):=by
 obtain ⟨l,hl,hr⟩:=List.mem_flatMap.1 h
 unfold uu at hr
 split at hr
 ·rename_i e
  simp only [List.mem_cons,List.not_mem_nil,or_false] at hr
  exact ⟨l,hl,e,hr⟩
 ·cases hr
theorem ym {p:Rat×Rat}{ls:List L3}{l:L3}(hl:l∈ls)(e:cB l p.1 p.2=0):ay.cC l∈eM p ls/\((-(ay.cC l).1,-(ay.cC l).2):Rat×Rat)∈eM p ls:=by
 constructor<;>refine List.mem_flatMap.2 ⟨l,hl,?_⟩<;>unfold uu<;>rw [if_pos e]<;>simp
theorem HS {v:Rat×Rat}(h:ay.nz v):¬ay.fA v (-v.1,-v.2)=0:=by
 rw [ay.e_]
 rintro ⟨e,-⟩
 unfold ay.nz at h
 rcases ay.bG v with ⟨h1,h2⟩|⟨h1,h2⟩|⟨h1,h2⟩<;>rcases ay.bG (-v.1,-v.2) with ⟨g1,g2⟩|⟨g1,g2⟩|⟨g1,g2⟩<;>first|omega|skip
 ·unfold ay.up at h2 g2;dsimp only at g2;grind
 ·unfold ay.dn at h2 g2;dsimp only at g2;grind
 ·grind
theorem yL {u v:Rat×Rat}(h:ay.fA u v=0):ay.fA v u=0:=by
 rw [ay.e_] at *
 have:=ay.cj u v
 exact ⟨h.1.symm,by grind⟩
theorem DR {u v:Rat×Rat}:ay.fA u v>0↔ay.fA v u<0:=by
 constructor
 ·intro h
  rcases ay.tQ u v with g|g|g
  ·omega
  ·omega
  ·exact g
 ·intro h
  have h1:=ay.yJ v u h
  have h2:¬ay.fA u v=0:=fun e=>by have:=yL e;omega
  omega
theorem A3 {p:Rat×Rat}:∀{ls:List L3},(∀l∈ls,j9 l=true/\cJ l=l)->ls.Nodup->(eM p ls).Pairwise fun x y=>¬ay.fA x y=0
 | [],_,_=>List.Pairwise.nil
 | l::r,h,hn=>by
  have ih:=A3 (p:=p) (fun m hm=>h m (List.mem_cons_of_mem _ hm)) (List.nodup_cons.1 hn).2
  have:eM p (l::r)=uu p l++eM p r:=rfl
  rw [this]
  obtain ⟨ol,cl⟩:=h l (List.mem_cons_self ..)
  have nl:=tD (C8 ol)
  refine List.pairwise_append.2 ⟨?_,ih,fun x hx y hy e=>?_⟩
  ·unfold uu
   split
   ·exact List.pairwise_cons.2 ⟨fun y hy=>by rcases List.mem_singleton.1 hy with rfl;exact HS nl,List.pairwise_singleton ..⟩
   ·exact List.Pairwise.nil
  ·have hx':x∈eM p [l]:=by show x∈uu p l++[];rw [List.append_nil];exact hx
   obtain ⟨l',hl',e1,x1⟩:=ng hx'
   rcases List.mem_singleton.1 hl' with rfl
   obtain ⟨m,hm,e2,y1⟩:=ng hy
   obtain ⟨om,cm⟩:=h m (List.mem_cons_of_mem _ hm)
   have c0:ay.cr (ay.cC l') (ay.cC m)=0:=by
    have c:=(ay.e_.1 e).2
    rcases x1 with rfl|rfl<;>rcases y1 with rfl|rfl<;>unfold ay.cr at c⊢<;> grind
   have:=ay.E7 ol om cl cm e1 e2 c0
   exact (List.nodup_cons.1 hn).1 (this▸hm)
theorem F1 {p:Rat×Rat}{ls:List L3}(h:∀l∈ls,j9 l=true/\cJ l=l)(hn:ls.Nodup){m:List (Rat×Rat)}(pm:m.Perm (eM p ls))(pw:m.Pairwise fun x y=>¬dq y x<0):ay.Am m:=by
 refine ay.IX pw (fun r hr=>?_) (fun r hr=>?_) (pm.symm.pairwise (A3 h hn) fun e e'=>e (yL e'))
 ·obtain ⟨l,hl,-,e⟩:=ng (pm.mem_iff.1 hr)
  have nl:=tD (C8 (h l hl).1)
  rcases e with rfl|rfl
  ·exact nl
  ·unfold ay.nz at *
   rcases nl with nl|nl
   ·left;dsimp only;grind
   ·right;dsimp only;grind
 ·obtain ⟨l,hl,e0,e⟩:=ng (pm.mem_iff.1 hr)
  obtain ⟨m1,m2⟩:=ym hl e0
  rcases e with rfl|rfl
  ·exact ⟨_,pm.mem_iff.2 m2,1,by decide,by dsimp only;grind,by dsimp only;grind⟩
  ·exact ⟨_,pm.mem_iff.2 m1,1,by decide,by dsimp only;grind,by dsimp only;grind⟩
theorem F0 {p:Rat×Rat}{ls:List L3}{m:List (Rat×Rat)}(pm:m.Perm (eM p ls)){M:List L3}(hM:∀l∈M,cB l p.1 p.2=0/\cJ l∈ls):ay.En m M:=by
 intro l hl
 obtain ⟨e,hc⟩:=hM l hl
 have e':cB (cJ l) p.1 p.2=0:=by
  unfold cJ
  split
  ·unfold cB wR at *;simp only [Rat.intCast_neg];grind
  ·exact e
 obtain ⟨m1,m2⟩:=ym hc e'
 have two:ay.cC (cJ l)=ay.cC l\/((-(ay.cC (cJ l)).1,-(ay.cC (cJ l)).2):Rat×Rat)=ay.cC l:=by
  unfold cJ
  split
  ·right;unfold ay.cC wR;simp only [Rat.intCast_neg];exact Prod.ext (by dsimp only;grind) (by dsimp only;grind)
  ·left;rfl
 rcases two with t|t
 ·exact ⟨_,pm.mem_iff.2 m1,1,by decide,by rw [t];exact Prod.ext (by dsimp only;grind) (by dsimp only;grind)⟩
 ·exact ⟨_,pm.mem_iff.2 m2,1,by decide,by rw [t];exact Prod.ext (by dsimp only;grind) (by dsimp only;grind)⟩
theorem Ha {D:List (Rat×Rat)}(h:ay.Am D){i:Nat}{u w:Rat×Rat}(hi:D[i]?=some u)(hw:D[(i+1)%D.length]?=some w)(hl:D.length>2):¬ay.fA u w=0:=by
 have hi':=(List.getElem?_eq_some_iff.1 hi).1
 by_cases e:i+1<D.length
 ·rw [Nat.mod_eq_of_lt e] at hw
  have a:=ay.jy h hi hw (by omega)
  have:=(ay.yK (h.nz u (List.mem_of_getElem? hi)) (h.nz w (List.mem_of_getElem? hw))).2 a
  omega
 ·have e:i+1=D.length:=by omega
  rw [e,Nat.mod_self] at hw
  have a:=ay.jy h hw hi (by omega)
  have:=(ay.yK (h.nz w (List.mem_of_getElem? hw)) (h.nz u (List.mem_of_getElem? hi))).2 a
  intro e
  have:=yL e
  omega
theorem Ly {D S:List (Rat×Rat)}(hD:D≠[])(hl:S.length=D.length)(h:∀i u w x,D[i]?=some u->D[(i+1)%D.length]?=some w->S[i]?=some x->ay.qG u w x):ay.Er D S:=by
 have h0:0<D.length:=List.length_pos_iff.2 hD
 refine .inr ⟨hD,fun x hx=>?_,fun i u w hi hw=>?_⟩
 ·obtain ⟨i,hi⟩:=List.getElem?_of_mem hx
  have hi':=(List.getElem?_eq_some_iff.1 hi).1
  exact ⟨i,_,_,List.getElem?_eq_getElem (by omega),List.getElem?_eq_getElem (Nat.mod_lt _ h0),h i _ _ x (List.getElem?_eq_getElem _) (List.getElem?_eq_getElem _) hi⟩
 ·have hi':=(List.getElem?_eq_some_iff.1 hi).1
  exact ⟨S[i],List.getElem_mem _,h i u w _ hi hw (List.getElem?_eq_getElem _)⟩
theorem Lv {u w:Rat×Rat}{a b:Rat}(ha:a>0)(hb:b>0)(h:ay.cr u w>0):ay.qG u w (a*u.1+((1:Int):Rat)*(b*w.1),a*u.2+((1:Int):Rat)*(b*w.2)):=by
 refine .inl ⟨h,a,b,ha,hb,?_⟩
 have:((1:Int):Rat)=1:=rfl
 rw [this]
 exact Prod.ext (by unfold ay.wN;dsimp only;grind) (by unfold ay.wN;dsimp only;grind)
theorem Lw {u w:Rat×Rat}(h:ay.cr u w=0):ay.qG u w (-u.2,u.1):=
 .inr ⟨by grind,1,by decide,Prod.ext (by unfold ay.wN ay.Ek;dsimp only;grind) (by unfold ay.wN ay.Ek;dsimp only;grind)⟩
theorem Io {p:Rat×Rat}(h:ay.nz p):ay.half p≠0:=by
 rcases ay.bG p with ⟨e,-⟩|⟨e,-⟩|⟨-,e1,e2⟩
 ·omega
 ·omega
 ·unfold ay.nz at h
  rcases h with h|h
  ·exact absurd e1 h
  ·exact absurd e2 h
theorem zw {z:Int}{q:Rat}{d G:Nat}(hd:q*(((d:Nat):Int):Rat)=(z:Rat))(hG:G∣z.natAbs)(h0:0<G):(((z / (G:Int):Int)):Rat)=((((d:Nat):Int):Rat)*((((G:Nat):Int):Rat))⁻¹)*q:=by
 have hg:(((G:Nat):Int):Rat)≠0:=by exact_mod_cast (by omega:(G:Int)≠0)
 have e1:(z / (G:Int))*(G:Int)=z:=Int.ediv_mul_cancel (Int.ofNat_dvd_left.2 hG)
 have e2:(((z / (G:Int):Int)):Rat)*(((G:Nat):Int):Rat)=(z:Rat):=by exact_mod_cast e1
 have e3:=ay.inv_mul hg (((z / (G:Int):Int)):Rat)
 have e4:(((z / (G:Int):Int)):Rat)*(((G:Nat):Int):Rat)*((((G:Nat):Int):Rat))⁻¹=(((z / (G:Int):Int)):Rat):=by grind
 rw [←e4,e2,←hd]
 grind
theorem js {V:View}{v:Value}{p:Rat×Rat}(h:RP V v p.1 p.2)(hn:ay.nz p){k:Nat}(s1:Sz k p.1)(s2:Sz k p.2)(hk0:0<k)(hk:4*k+4<274877906944) :
  ab prog 63 #[v] V fun r V'=>∃c:Rat,c>0/\RP V' r (c*p.1) (c*p.2)/\Sz (k+k) (c*p.1)/\Sz (k+k) (c*p.2):=by
 have h0:=h
 obtain ⟨_,_,_,_,_,_,_,_,_,_,_,_,rfl,hx,hy⟩:=h
 refine o_ _ _ _ _ _ _ _ _ _ _ _ _ _ _ V _ fun V1 l1=>(kW (h0.le l1)).mono ?_
 rintro r V2 l2 rfl
 have uM:=l1.trans l2
 refine ⟨_,rfl,fun e=>absurd (by simpa using e) (Io hn),fun _ V4 l4=>(bY p.2 _ (RQ.den (hy.le (uM.trans l4)))).mono ?_⟩
 rintro r V5 l5 ⟨d1,d2,d3,rfl,gd⟩
 refine ⟨_,_,_,rfl,fun V6 l6=>(cx false (gd.le l6)).mono ?_⟩
 rintro r V7 l7 gm
 rw [if_neg (by decide)] at gm
 have Wu:=gm
 obtain ⟨_,_,_,rfl,-⟩:=gm
 have Fs:=uM.trans (l4.trans (l5.trans (l6.trans l7)))
 have n1:=af s1.1
 have n2:=af s2.1
 have m1:=af s1.2
 have m2:=af s2.2
 refine ⟨_,_,_,_,rfl,fun V8 l8=>(ug (RQ.int (hx.le (Fs.trans l8))) (Wu.le l8) (by rw [Int.natAbs_natCast];omega)).mono ?_⟩
 rintro r V9 l9 gx
 have QR:=gx
 obtain ⟨_,_,_,rfl,-⟩:=gx
 have Ny:=Fs.trans (l8.trans l9)
 refine ⟨_,_,_,_,rfl,fun g_ l10=>(bY p.1 _ (RQ.den (hx.le (Ny.trans l10)))).mono ?_⟩
 rintro r gW bI ⟨f1,f2,f3,rfl,gf⟩
 refine ⟨_,_,_,rfl,fun lH cw=>(cx false (gf.le cw)).mono ?_⟩
 rintro r lU cd gn
 rw [if_neg (by decide)] at gn
 have QN:=gn
 obtain ⟨_,_,_,rfl,-⟩:=gn
 have NO:=l10.trans (bI.trans (cw.trans cd))
 refine ⟨_,_,_,_,rfl,fun po dN=>(ug (RQ.int (hy.le (Ny.trans (NO.trans dN)))) (QN.le dN) (by rw [Int.natAbs_natCast];omega)).mono ?_⟩
 rintro r nF dk gy
 have Wz:=gy
 obtain ⟨_,_,_,rfl,-⟩:=gy
 have NP:=NO.trans (dN.trans dk)
 have ex:=rZ p.1 p.2.den
 have ey:=rZ p.2 p.1.den
 have bx:(p.1.num*(p.2.den:Int)).natAbs<2^(k+k):=by rw [Int.natAbs_mul,Int.natAbs_natCast];exact bA s1.1 s2.2
 have Kp:(p.2.num*(p.1.den:Int)).natAbs<2^(k+k):=by rw [Int.natAbs_mul,Int.natAbs_natCast];exact bA s2.1 s1.2
 have hne:(p.1.num*(p.2.den:Int)).natAbs≠0\/(p.2.num*(p.1.den:Int)).natAbs≠0:=by
  unfold ay.nz at hn
  rcases hn with hn|hn
  ·left
   rw [Int.natAbs_mul,Int.natAbs_natCast]
   exact Nat.mul_ne_zero (fun e=>hn (Rat.num_eq_zero.1 (by omega))) p.2.den_nz
  ·right
   rw [Int.natAbs_mul,Int.natAbs_natCast]
   exact Nat.mul_ne_zero (fun e=>hn (Rat.num_eq_zero.1 (by omega))) p.1.den_nz
 rw [Nat.mul_comm p.2.den p.1.den] at ey
 generalize p.1.num*(p.2.den:Int)=X at *
 generalize p.2.num*(p.1.den:Int)=Y at *
 have hD:0<p.1.den*p.2.den:=Nat.pos_of_ne_zero (Nat.mul_ne_zero p.1.den_nz p.2.den_nz)
 generalize p.1.den*p.2.den=D at *
 obtain ⟨ix,rx⟩:=QR.inv
 obtain ⟨iy,ry⟩:=Wz.inv
 have nx:=af bx
 have ny:=af Kp
 refine ⟨_,_,_,_,rfl,fun mW dm=>(hJ (rx.le (NP.trans dm)) (ry.le dm) (by omega) (by omega)).mono ?_⟩
 rintro r nN cP ⟨g1,g2,g3,rfl,gg⟩
 have dx:Nat.gcd X.natAbs Y.natAbs∣X.natAbs:=Nat.gcd_dvd_left _ _
 have dy:Nat.gcd X.natAbs Y.natAbs∣Y.natAbs:=Nat.gcd_dvd_right _ _
 have G0:0<Nat.gcd X.natAbs Y.natAbs:=Nat.pos_of_ne_zero fun e=>by
  rw [Nat.gcd_eq_zero_iff] at e
  rcases hne with h|h
  ·exact h e.1
  ·exact h e.2
 have Gl:(ai (Nat.gcd X.natAbs Y.natAbs)).length<=k+k:=by
  apply af
  rcases hne with h|h
  ·exact Nat.lt_of_le_of_lt (Nat.le_of_dvd (by omega) dx) bx
  ·exact Nat.lt_of_le_of_lt (Nat.le_of_dvd (by omega) dy) Kp
 have sx:=mr G0 dx
 have sy:=mr G0 dy
 generalize Nat.gcd X.natAbs Y.natAbs=G at *
 have Sc:=NP.trans (dm.trans cP)
 refine ⟨_,_,_,rfl,fun qI dZ=>(cF (rx.le (Sc.trans dZ)) (gg.le dZ) (by omega) (by omega) G0).mono ?_⟩
 rintro r tq dR ⟨_,_,_,_,_,_,rfl,Wv,-⟩
 refine ⟨_,_,_,_,_,_,rfl,fun An iQ=>(cF (ry.le (dm.trans (cP.trans (dZ.trans (dR.trans iQ))))) (gg.le (dZ.trans (dR.trans iQ))) (by omega) (by omega) G0).mono ?_⟩
 rintro r tu eh ⟨_,_,_,_,_,_,rfl,QM,-⟩
 refine ⟨_,_,_,_,_,_,rfl,fun wi kq=>(cx _ (Wv.le (iQ.trans (eh.trans kq)))).mono ?_⟩
 rw [ix,sx]
 rintro r tM fB gA
 have YO:=gA
 obtain ⟨_,_,_,rfl,ra⟩:=gA
 refine ⟨_,_,_,_,rfl,fun Cu pg=>(cx _ (QM.le (kq.trans (fB.trans pg)))).mono ?_⟩
 rw [iy,sy]
 rintro r DN gF gB
 obtain ⟨_,_,_,rfl,rb⟩:=gB
 refine ⟨_,_,_,_,rfl,fun Fv nV=>⟨(((D:Nat):Int):Rat)*((((G:Nat):Int):Rat))⁻¹,?_,?_,?_,?_⟩⟩
 ·refine ay.mp (by exact_mod_cast hD) (Rat.inv_pos.2 (by exact_mod_cast G0))
 ·rw [←zw ex dx G0,←zw ey dy G0]
  exact ⟨_,_,_,_,_,_,_,_,_,_,_,_,rfl,lM (z:=X / (G:Int)) (d:=1) rfl rfl (ra.le (pg.trans (gF.trans nV))) RD.nil rfl,lM (z:=Y / (G:Int)) (d:=1) rfl rfl (rb.le nV) RD.nil rfl⟩
 ·rw [←zw ex dx G0]
  exact rA (Nat.lt_of_le_of_lt (Int.natAbs_ediv_le_natAbs ..) bx) (by omega)
 ·rw [←zw ey dy G0]
  exact rA (Nat.lt_of_le_of_lt (Int.natAbs_ediv_le_natAbs ..) Kp) (by omega)
def tJ (k:Nat)(V:View)(v:Value)(c:Rat×Rat):Prop:=RP V v c.1 c.2/\Sz k c.1/\Sz k c.2
theorem tJ.le {k:Nat}{V V':View}{v:Value}{c:Rat×Rat}(h:tJ k V v c)(l:V.Le V'):tJ k V' v c:=⟨h.1.le l,h.2⟩
theorem tJ.mono {k m:Nat}{V:View}{v:Value}{c:Rat×Rat}(h:tJ k V v c)(l:k<=m):tJ m V v c:=⟨h.1,h.2.1.mono l,h.2.2.mono l⟩
theorem Ea {a:Bool}{p:OA}{n c:Nat}{p':OA}{n' c':Nat}{b:Bool}{q:OA}{m d:Nat}{q':OA}{m' d':Nat}:∀v∈([.bool a,.slice p n c,.slice p' n' c',.bool b,.slice q m d,.slice q' m' d']:List Value),v.oneCell'=true:=by
 intro v hm
 simp only [List.mem_cons,List.not_mem_nil,or_false] at hm
 rcases hm with rfl|rfl|rfl|rfl|rfl|rfl<;>rfl
theorem Ld {a:Bool}{p:OA}{n c:Nat}{p':OA}{n' c':Nat}{b:Bool}{q:OA}{m d:Nat}{q':OA}{m' d':Nat}{e:Bool}{r:OA}{o f:Nat}{r':OA}{o' f':Nat}{g:Bool}{s:OA}{k h:Nat}{s':OA}{k' h':Nat} :
  ∀v∈([.bool a,.slice p n c,.slice p' n' c',.bool b,.slice q m d,.slice q' m' d',.bool e,.slice r o f,.slice r' o' f',.bool g,.slice s k h,.slice s' k' h']:List Value),v.oneCell'=true:=by
 intro v hm
 have:v∈([.bool a,.slice p n c,.slice p' n' c',.bool b,.slice q m d,.slice q' m' d']:List Value)++[.bool e,.slice r o f,.slice r' o' f',.bool g,.slice s k h,.slice s' k' h']:=hm
 rcases List.mem_append.1 this with h|h
 ·exact Ea v h
 ·exact Ea v h
theorem tG {k:Nat}{V:View}{vs:List Value}{al:List (Rat×Rat)}(h:Row 6 (tJ k) V vs al){i:Nat}(hi:i<al.length) :
  ∃(b1:Bool)(p1:OA)(n1 c1:Nat)(p2:OA)(n2 c2:Nat)(b2:Bool)(p3:OA)(n3 c3:Nat)(p4:OA)(n4 c4:Nat),(i*6+6<=vs.length/\(vs.drop (i*6)).take 6=[.bool b1,.slice p1 n1 c1,.slice p2 n2 c2,.bool b2,.slice p3 n3 c3,.slice p4 n4 c4]) /\
   tJ k V (.agg #[.bool b1,.slice p1 n1 c1,.slice p2 n2 c2,.bool b2,.slice p3 n3 c3,.slice p4 n4 c4]) (al.getD i bo):=by
 obtain ⟨xs,-,h2,h3,h4⟩:=h.get (d:=bo) hi (by decide)
 have h20:=h2
 obtain ⟨⟨_,_,_,_,_,_,_,_,_,_,_,_,e,-⟩,-⟩:=h2
 have e:=congrArg Array.toList (Value.agg.inj e)
 dsimp only at e
 subst e
 exact ⟨_,_,_,_,_,_,_,_,_,_,_,_,_,_,⟨h3,h4⟩,h20⟩
theorem IH {k:Nat}{V:View}{p:OA}{n:Nat}{al:List (Rat×Rat)}(h:og 6 (tJ k) V p n al){i:Nat}(hi:i<al.length) :
  p.isSome=true/\∃(b1:Bool)(p1:OA)(n1 c1:Nat)(p2:OA)(n2 c2:Nat)(b2:Bool)(p3:OA)(n3 c3:Nat)(p4:OA)(n4 c4:Nat)(a:Addr),ah p (i*6)=some a/\V.at (a.add 0) (.bool b1)/\V.at (a.add 1) (.slice p1 n1 c1)/\V.at (a.add 2) (.slice p2 n2 c2)/\V.at (a.add 3) (.bool b2)/\V.at (a.add 4) (.slice p3 n3 c3)/\V.at (a.add 5) (.slice p4 n4 c4) /\
   tJ k V (.agg #[.bool b1,.slice p1 n1 c1,.slice p2 n2 c2,.bool b2,.slice p3 n3 c3,.slice p4 n4 c4]) al[i]:=by
 obtain ⟨ad,h0,xs,h1,h2,h3⟩:=h.at_ i hi
 have h20:=h2
 obtain ⟨⟨_,_,_,_,_,_,_,_,_,_,_,_,e,-⟩,-⟩:=h2
 have e:=congrArg Array.toList (Value.agg.inj e)
 dsimp only at e
 subst e
 refine ⟨?_,_,_,_,_,_,_,_,_,_,_,_,_,_,_,ad,h0,h3 0 _ rfl,h3 1 _ rfl,h3 2 _ rfl,h3 3 _ rfl,h3 4 _ rfl,h3 5 _ rfl,h20⟩
 cases p with
 | none=>cases h0
 | some a=>rfl
theorem Hg {V:View}{b1:Bool}{p1:OA}{n1 c1:Nat}{p2:OA}{n2 c2:Nat}{b2:Bool}{p3:OA}{n3 c3:Nat}{p4:OA}{n4 c4:Nat}{x y:Rat}(h:RP V (.agg #[.bool b1,.slice p1 n1 c1,.slice p2 n2 c2,.bool b2,.slice p3 n3 c3,.slice p4 n4 c4]) x y) :
  RQ V (.agg #[.bool b1,.slice p1 n1 c1,.slice p2 n2 c2]) x/\RQ V (.agg #[.bool b2,.slice p3 n3 c3,.slice p4 n4 c4]) y:=by
 obtain ⟨_,_,_,_,_,_,_,_,_,_,_,_,e,h1,h2⟩:=h
 cases e
 exact ⟨h1,h2⟩
theorem OJ {V:View}{b1:Bool}{p1:OA}{n1 c1:Nat}{p2:OA}{n2 c2:Nat}{b2:Bool}{p3:OA}{n3 c3:Nat}{p4:OA}{n4 c4:Nat}{x y:Rat}(h1:RQ V (.agg #[.bool b1,.slice p1 n1 c1,.slice p2 n2 c2]) x)(h2:RQ V (.agg #[.bool b2,.slice p3 n3 c3,.slice p4 n4 c4]) y) :
  RP V (.agg #[.bool b1,.slice p1 n1 c1,.slice p2 n2 c2,.bool b2,.slice p3 n3 c3,.slice p4 n4 c4]) x y:=by
 have h10:=h1
 have h20:=h2
 obtain ⟨_,_,_,_,_,_,e,-⟩:=h1
 cases e
 obtain ⟨_,_,_,_,_,_,e,-⟩:=h2
 cases e
 exact ⟨_,_,_,_,_,_,_,_,_,_,_,_,rfl,h10,h20⟩
theorem sG {V:View}{lp:OA}{ln lc:Nat}{ls:List L3}{pv:Value}{p:Rat×Rat}(h:og 6 mV V lp ln ls)(hb:∀l∈ls,Bd l)(hk:∀l∈ls,j9 l=true/\cJ l=l)(hnd:ls.Nodup)(hl:ls.length<=1000)(hp:RP V pv p.1 p.2)(s1:Sz 100000 p.1)(s2:Sz 100000 p.2) :
  ab prog 19 #[.slice lp ln lc,pv,.bool false] V fun r V'=>∃q n c E S,r=.slice q n c/\ay.Am E/\ay.Er E S/\E.Perm (eM p ls)/\S.length<=2001/\og 6 (tJ 6000) V' q n S:=by
 have hn:=h.len
 subst hn
 have hp0:=hp
 obtain ⟨_,_,_,_,_,_,_,_,_,_,_,_,rfl,-⟩:=hp
 have dl:=xX p ls
 refine rI lp ls.length lc _ _ _ _ _ _ _ _ _ _ _ _ _ _ V _ ⟨fun z V'=>∃i:Nat,z.2.2.2=(i:Int)/\i<=ls.length/\GR 6 (tJ 1000) V' z.1 z.2.1 z.2.2.1 (eM p (ls.take i)),fun z=>(ls.length-z.2.2.2).toNat,⟨(0,0,[],0),by and_intros<;>first|rfl|trivial,0,rfl,Nat.zero_le _,GR.nil⟩,?_⟩
 rintro ⟨n1,c1,vs1,z⟩ V1 l1 ⟨i,e,hi,g⟩
 dsimp only at e g ⊢
 subst e
 refine ⟨rfl,fun hlt=>?_,fun hlt=>?_⟩
 ·have hlt:i<ls.length:=by have:=of_decide_eq_true hlt;omega
  have w1:i64.wrap ((i:Int)+1)=((i+1:Nat):Int):=by rw [ar (by omega)];rfl
  rw [w1]
  simp only [Int.toNat_natCast]
  obtain ⟨is,b1,p1,n1',c1',b2,p2,n2,c2,b3,p3,n3,c3,a,had,a0,a1,a2,a3,a4,a5,hl1⟩:=zl (h.le l1 fun _ _ g=>mV.le g l1) hlt
  have sl:=(hb _ (List.getElem_mem hlt)).Jf
  have et:=CP (p:=p) hlt
  unfold uu at et
  have gl:=g.len
  have Wt:n1<=2*ls.length:=by rw [gl];have:=xX p (ls.take i);rw [List.length_take] at this;omega
  generalize ls[i]=A at *
  refine ⟨is,⟨by omega,by omega⟩,b1,p1,n1',c1',b2,p2,n2,c2,b3,p3,n3,c3,a,had,a0,a1,a2,a3,a4,a5,fun V2 l2=>(Ll (x:=p.1) (y:=p.2) (hl1.le l2) (hp0.le (l1.trans l2)) ⟨sl.1.mono (Nat.le_trans (by omega) (Nat.le_refl 100000)),sl.2.1.mono (by omega),sl.2.2.mono (by omega)⟩ s1 s2 (by omega)).mono ?_⟩
  rintro r V3 l3 rfl
  refine ⟨_,rfl,fun e0 V4 l4=>(jr (hl1.le (l2.trans (l3.trans l4))) sl.1 sl.2.1 sl.2.2 (by omega)).mono ?_,fun e0=>⟨(n1,c1,vs1,((i+1:Nat):Int)),by dsimp only;omega,by and_intros<;>first|rfl|trivial,i+1,rfl,by omega,?_⟩⟩
  ·have e0:cB A p.1 p.2=0:=ay.dT.1 (by simpa using e0)
   rw [if_pos e0] at et
   rintro r V5 l5 gd
   have KA:=gd
   obtain ⟨_,_,_,_,_,_,_,_,_,_,_,_,rfl,-⟩:=gd
   refine ⟨_,_,_,_,_,_,_,_,_,_,_,_,_,_,rfl,fun V6 l6=>(jr (hl1.le (l2.trans (l3.trans (l4.trans (l5.trans l6))))) sl.1 sl.2.1 sl.2.2 (by omega)).mono ?_⟩
   rintro r V7 l7 ge
   have Pt:RP V7 r (ay.cC A).1 (ay.cC A).2:=ge
   obtain ⟨_,_,_,_,_,_,_,_,_,_,_,_,rfl,-⟩:=ge
   refine ⟨_,_,_,_,_,_,_,_,_,_,_,_,_,_,rfl,fun V8 l8=>(AM (p:=ay.cC A) (Pt.le l8) sl.2.1 sl.1.neg (by omega)).mono ?_⟩
   rintro r V9 l9 gf
   have QL:=gf
   obtain ⟨_,_,_,_,_,_,_,_,_,_,_,_,rfl,-⟩:=gf
   refine ⟨_,_,_,_,_,_,_,_,_,_,_,_,_,_,rfl,by omega,g.le,g.cap,rfl,Ld,fun sp c' g1 g2=>⟨(n1+2,c',_,((i+1:Nat):Int)),by dsimp only;omega,by and_intros<;>first|rfl|trivial,i+1,rfl,by omega,?_⟩⟩
   rw [et]
   exact (g.mono fun _ _ g=>tJ.le g (l2.trans (l3.trans (l4.trans (l5.trans (l6.trans (l7.trans (l8.trans l9)))))))).J4 (xs:=[_,_,_,_,_,_]) (ys:=[_,_,_,_,_,_]) rfl rfl ⟨KA.le (l6.trans (l7.trans (l8.trans l9))),sl.2.1,sl.1.neg⟩ ⟨QL,sl.2.1.neg,sl.1.neg.neg⟩ (by decide) g1 g2
  ·have e0:¬cB A p.1 p.2=0:=fun h=>by rw [ay.dT.2 h] at e0;cases e0
   rw [if_neg e0,List.append_nil] at et
   rw [et]
   exact g.mono fun _ _ g=>tJ.le g (l2.trans l3)
 have hlt:i=ls.length:=by have:=of_decide_eq_false hlt;omega
 subst hlt
 rw [List.take_length] at g
 have g1:=g.len
 have JA:=g.le
 have gr:=g.row
 clear g
 generalize eL:eM p ls=L at *
 subst g1
 refine ⟨fun z V'=>∃(i:Nat)(m:List (Rat×Rat)),z.1=(i:Int)/\i<=L.length/\Row 6 (tJ 1000) V' z.2 m/\gV bo L m 0 L.length/\pk dq bo m 0 i,fun z=>(L.length-z.1).toNat,⟨(0,vs1),by and_intros<;>first|rfl|trivial,0,L,rfl,Nat.zero_le _,gr,.refl _ _ _,.short (by omega)⟩,?_⟩
 rintro ⟨z,us⟩ g_ l10 ⟨i,m,e,hi,hm,sg,Ao⟩
 dsimp only at e hm ⊢
 subst e
 have ml:=sg.len
 refine ⟨rfl,fun hlt=>?_,fun hlt=>?_⟩
 ·have hlt:i<L.length:=by have:=of_decide_eq_true hlt;omega
  have w2:i64.wrap ((i:Int)+1)=((i+1:Nat):Int):=by rw [ar (by omega)];rfl
  rw [w2]
  refine ⟨fun z V'=>∃(j:Nat)(k:List (Rat×Rat)),z.1=(j:Int)/\j<=i/\Row 6 (tJ 1000) V' z.2 k/\gV bo L k 0 L.length/\HM dq bo k 0 i j,fun z=>z.1.toNat,⟨((i:Int),us),by and_intros<;>first|rfl|trivial,i,m,rfl,Nat.le_refl _,hm,sg,.start Ao⟩,?_⟩
  rintro ⟨z,ws⟩ gW bI ⟨j,k,e,hji,hk1,sg,ins⟩
  dsimp only at e hk1 ⊢
  subst e
  have kl:=sg.len
  refine ⟨rfl,fun hj=>?_,fun hj=>⟨(((i+1:Nat):Int),ws),by dsimp only;omega,by and_intros<;>first|rfl|trivial,i+1,k,rfl,by omega,hk1,sg,ins.done fG hji (.inl (by have:=of_decide_eq_false hj;omega))⟩⟩
  have hj:0<j:=by have:=of_decide_eq_true hj;omega
  have w1:i64.wrap ((j:Int)-1)=((j-1:Nat):Int):=by rw [ar (by omega)];omega
  rw [w1,Int.toNat_natCast,Int.toNat_natCast]
  obtain ⟨x1,x2,x3,x4,x5,x6,x7,x8,x9,x10,LK,LM,LN,LO,g1,r1⟩:=tG hk1 (i:=j-1) (by omega)
  obtain ⟨y1,y2,y3,y4,y5,y6,y7,y8,y9,Mk,Ml,Mm,y13,Mn,g2,r2⟩:=tG hk1 (i:=j) (by omega)
  refine ⟨⟨by omega,by omega⟩,JA,x1,x2,x3,x4,x5,x6,x7,x8,x9,x10,LK,LM,LN,LO,g1,⟨by omega,by omega⟩,JA,y1,y2,y3,y4,y5,y6,y7,y8,y9,Mk,Ml,Mm,y13,Mn,g2,fun lH cw=>(nQ (r1.1.le cw) (r2.1.le cw) r1.2.1 r1.2.2 r2.2.1 r2.2.2 (by omega)).mono ?_⟩
  rintro r lU cd rfl
  have hk2:=hk1.le fun _ _ g=>tJ.le g (cw.trans cd)
  refine ⟨_,rfl,fun gt=>?_,fun gt=>⟨(((i+1:Nat):Int),ws),by dsimp only;omega,by and_intros<;>first|rfl|trivial,i+1,k,rfl,by omega,hk2,sg,ins.done fG hji (.inr fun h=>absurd (DR.2 h) (of_decide_eq_false gt))⟩⟩
  have hlt2:dq (k.getD j bo) (k.getD (j-1) bo)<0:=DR.1 (of_decide_eq_true gt)
  have e1:(ae ws ((j-1)*6) [.bool y1,.slice y2 y3 y4,.slice y5 y6 y7,.bool y8,.slice y9 Mk Ml,.slice Mm y13 Mn]).length=ws.length:=jG (by simp only [List.length_cons,List.length_nil];omega)
  have sw:=(hk2.swap (i:=j-1) (j:=j) (xs:=[.bool x1,.slice x2 x3 x4,.slice x5 x6 x7,.bool x8,.slice x9 x10 LK,.slice LM LN LO]) (ys:=[.bool y1,.slice y2 y3 y4,.slice y5 y6 y7,.bool y8,.slice y9 Mk Ml,.slice Mm y13 Mn]) (d:=bo) (by omega) (by omega) (by decide) rfl rfl (r1.le (cw.trans cd)) (r2.le (cw.trans cd)))
  have ec:jf bo k (j-1) j=jf bo k j (j-1):=by
   unfold jf
   exact List.set_comm _ _ (by omega)
  rw [ec] at sw
  exact ⟨⟨by omega,by omega⟩,JA,y1,y2,y3,y4,y5,y6,y7,y8,y9,Mk,Ml,Mm,y13,Mn,g2,⟨by omega,by omega⟩,JA,x1,x2,x3,x4,x5,x6,x7,x8,x9,x10,LK,LM,LN,LO,g1,⟨by omega,by omega⟩,JA,g1.1,⟨by omega,by omega⟩,JA,by rw [e1];exact g2.1,
   (((j-1:Nat):Int),_),by dsimp only;omega,by and_intros<;>first|rfl|trivial,j-1,_,rfl,by omega,sw,sg.trans (gV.jf (by omega) (by omega) (by omega) (by omega) (by omega)),ins.move fG hj hji (by omega) hlt2⟩
 have hlt:i=L.length:=by have:=of_decide_eq_false hlt;omega
 subst hlt
 have pm:m.Perm (eM p ls):=by rw [eL];exact sg.perm
 have pw:m.Pairwise fun x y=>¬dq y x<0:=by
  refine List.pairwise_iff_getElem.2 fun i j hi hj wL=>?_
  have:=Ao i j (by omega) wL (by omega)
  rw [List.getD_eq_getElem?_getD,List.getD_eq_getElem?_getD,List.getElem?_eq_getElem hi,List.getElem?_eq_getElem hj] at this
  simp only [Option.getD_some] at this
  exact this
 have ry:=F1 hk hnd pm pw
 refine ⟨fun h0 po dN=>(dF 1 0 (by omega) (by omega) (by omega) (by omega)).mono ?_,fun h0=>?_⟩
 ·rintro r nF dk gx
  have QR:=gx
  obtain ⟨_,_,_,_,_,_,_,_,_,_,_,_,rfl,-⟩:=gx
  refine ⟨_,_,_,_,_,_,_,_,_,_,_,_,_,_,rfl,fun mW dm bk hbk=>⟨_,1,1,m,[(1,0)],rfl,ry,.inl ⟨List.length_eq_zero_iff.1 (by have:=beq_iff_eq.1 h0;omega),rfl⟩,sg.perm,by simp,og.zo hbk (row_one rfl ⟨QR.le dm,?_,?_⟩)⟩⟩
  ·exact (rz (z:=1) (by omega)).mono (by omega)
  ·exact (rz (z:=0) (by omega)).mono (by omega)
 have hL0:L.length≠0:=fun e=>by rw [e] at h0;cases h0
 have hm0:m≠[]:=fun e=>by rw [e] at ml;exact hL0 ml.symm
 refine ⟨fun z V'=>∃(i:Nat)(S:List (Rat×Rat)),z.2.2.2=(i:Int)/\i<=L.length/\S.length=i/\GR 6 (tJ 6000) V' z.1 z.2.1 z.2.2.1 S/\∀j u w x,m[j]?=some u->m[(j+1)%m.length]?=some w->S[j]?=some x->ay.qG u w x,fun z=>(L.length-z.2.2.2).toNat,⟨(0,0,[],0),by and_intros<;>first|rfl|trivial,0,[],rfl,Nat.zero_le _,rfl,GR.nil,fun j u w x _ _ h=>by cases h⟩,?_⟩
 rintro ⟨n2,c2,vs2,z⟩ nN cP ⟨i,S,e,hi,hS,g,sm⟩
 dsimp only at e g ⊢
 subst e
 have gl:=g.len
 refine ⟨rfl,fun hlt=>?_,fun hlt Vy wM bk hbk=>?_⟩
 ·have hlt:i<L.length:=by have:=of_decide_eq_true hlt;omega
  have w1:i64.wrap ((i:Int)+1)=((i+1:Nat):Int):=by rw [ar (by omega)];rfl
  have hmod:(((i+1:Nat):Int)).tmod (L.length:Int)=(((i+1)%L.length:Nat):Int):=by rw [Int.ofNat_tmod]
  have hj:(i+1)%L.length<L.length:=Nat.mod_lt _ (by omega)
  rw [w1,hmod,Int.toNat_natCast,Int.toNat_natCast]
  have hm':=hm.le fun _ _ g=>tJ.le g cP
  obtain ⟨x1,x2,x3,x4,x5,x6,x7,x8,x9,x10,LK,LM,LN,LO,g1,r1⟩:=tG hm' (i:=i) (by omega)
  obtain ⟨y1,y2,y3,y4,y5,y6,y7,y8,y9,Mk,Ml,Mm,y13,Mn,g2,r2⟩:=tG hm' (i:=(i+1)%L.length) (by omega)
  have hu:m[i]?=some (m.getD i bo):=by rw [List.getD_eq_getElem?_getD,List.getElem?_eq_getElem (by omega)];rfl
  have hw:m[(i+1)%m.length]?=some (m.getD ((i+1)%L.length) bo):=by rw [ml,List.getD_eq_getElem?_getD,List.getElem?_eq_getElem (by omega)];rfl
  have ge:=ay.GP ry hu hw
  have nx:=Ha ry hu hw
  have nu:=ry.nz _ (List.mem_of_getElem? hu)
  have nw:=ry.nz _ (List.mem_of_getElem? hw)
  have done:∀{x:Rat×Rat},ay.qG (m.getD i bo) (m.getD ((i+1)%L.length) bo) x->∀j u w y,m[j]?=some u->m[(j+1)%m.length]?=some w->(S++[x])[j]?=some y->ay.qG u w y:=fun {x} hx j u w y h1 h2 h3=>by
   by_cases c:j<S.length
   ·rw [List.getElem?_append_left c] at h3;exact sm j u w y h1 h2 h3
   ·have hj':=(List.getElem?_eq_some_iff.1 h3).1
    rw [List.length_append,List.length_singleton] at hj'
    have e:j=i:=by omega
    rw [e] at h1 h2
    rw [List.getElem?_append_right (by omega),show j-S.length=0 by omega] at h3
    rw [hu] at h1
    rw [hw] at h2
    cases h1;cases h2;cases h3
    exact hx
  generalize m.getD i bo=u at *
  generalize m.getD ((i+1)%L.length) bo=w at *
  refine ⟨⟨by omega,by omega⟩,JA,x1,x2,x3,x4,x5,x6,x7,x8,x9,x10,LK,LM,LN,LO,g1,by omega,⟨by omega,by omega⟩,JA,y1,y2,y3,y4,y5,y6,y7,y8,y9,Mk,Ml,Mm,y13,Mn,g2,fun z V'=>nN.Le V'/\z=false,fun qI dZ=>(nQ (r1.1.le dZ) (r2.1.le dZ) r1.2.1 r1.2.2 r2.2.1 r2.2.2 (by omega)).mono ?_,?_⟩
  ·rintro r tq dR rfl
   refine ⟨_,rfl,fun z0=>⟨_,by and_intros<;>first|rfl|trivial,dZ.trans dR,?_⟩,fun z0=>⟨_,by and_intros<;>first|rfl|trivial,dZ.trans dR,rfl⟩⟩
   refine decide_eq_false fun gt=>nx (by omega) (by simpa using z0)
  rintro z An Xg ⟨iQ,rfl⟩
  refine ⟨rfl,(fun h=>by cases h),fun _ tu eh=>(nR (r1.1.le (iQ.trans eh)) (r2.1.le (iQ.trans eh)) r1.2.1 r1.2.2 r2.2.1 r2.2.2 (by omega)).mono ?_⟩
  rintro r wi kq gc
  have Kz:=gc
  obtain ⟨_,_,_,_,_,_,rfl⟩:=gc.shape
  refine ⟨_,_,_,_,_,_,_,rfl,fun tM fB=>(pG (Kz.le fB)).mono ?_⟩
  rintro r Cu pg rfl
  have Mo:=iQ.trans (eh.trans (kq.trans (fB.trans pg)))
  obtain ⟨gx,gy⟩:=Hg r1.1
  refine ⟨_,rfl,fun z0 DN gF=>(iL (gy.le (Mo.trans gF)) r1.2.2 (by omega)).mono ?_,fun z0 Js lY=>(js (r1.1.le (Mo.trans lY)) nu r1.2.1 r1.2.2 (by omega) (by omega)).mono ?_⟩
  ·have c0:ay.cr u w=0:=ay.dT.1 (beq_iff_eq.1 z0)
   rintro r Fv nV go
   have go0:=go
   obtain ⟨_,_,_,_,_,_,rfl⟩:=go.shape
   refine ⟨_,_,_,_,_,_,_,rfl,by omega,g.le,g.cap,rfl,Ea,fun sp c' k1 k2=>⟨(n2+1,c',_,((i+1:Nat):Int)),by dsimp only;omega,by and_intros<;>first|rfl|trivial,i+1,S++[(-u.2,u.1)],rfl,by omega,by simp [hS],?_,done (Lw c0)⟩⟩
   exact (g.mono fun _ _ g=>tJ.le g (Mo.trans (gF.trans nV))).snoc (xs:=[_,_,_,_,_,_]) rfl ⟨OJ go0 (gx.le (Mo.trans (gF.trans nV))),r1.2.2.neg.mono (by omega),r1.2.1.mono (by omega)⟩ (by decide) k1 k2
  ·have c0:ay.cr u w>0:=by
    have:¬ay.cr u w=0:=fun e=>by
     have:=ay.dT.2 e
     unfold ay.cr at this
     rw [this] at z0
     cases z0
    grind
   rintro r HR Bk ⟨a,a0,ga,sa1,U_⟩
   have MW:=ga
   obtain ⟨_,_,_,_,_,_,_,_,_,_,_,_,rfl,-⟩:=ga
   refine ⟨_,_,_,_,_,_,_,_,_,_,_,_,_,_,rfl,fun LX tB=>(ki 1 (by omega) (by omega)).mono ?_⟩
   rintro r Fw uN go
   have go0:=go
   obtain ⟨_,_,_,_,_,_,rfl⟩:=go.shape
   have Tu:=Mo.trans (lY.trans (Bk.trans (tB.trans uN)))
   refine ⟨_,_,_,_,_,_,_,rfl,fun Mt Cq=>(js (r2.1.le (Tu.trans Cq)) nw r2.2.1 r2.2.2 (by omega) (by omega)).mono ?_⟩
   rintro r P1 IC ⟨b,b0,gb,sb1,Va⟩
   have Ws:=gb
   obtain ⟨_,_,_,_,_,_,_,_,_,_,_,_,rfl,-⟩:=gb
   have s3:Sz 2000 ((1:Int):Rat):=(rz (z:=1) (by omega)).mono (by omega)
   have Gn:=Cq.trans IC
   refine ⟨_,_,_,_,_,_,_,_,_,_,_,_,_,_,rfl,fun P2 zj=>(jq (MW.le (tB.trans (uN.trans (Gn.trans zj)))) (go0.le (Gn.trans zj)) (Ws.le zj) sa1 U_ s3 sb1 Va (by omega)).mono ?_⟩
   rintro r Vx K4 gs
   have gs0:=gs
   obtain ⟨_,_,_,_,_,_,_,_,_,_,_,_,rfl,-⟩:=gs
   have Vw:=Tu.trans (Gn.trans (zj.trans K4))
   refine ⟨_,_,_,_,_,_,_,_,_,_,_,_,_,_,rfl,by omega,g.le,g.cap,rfl,Ea,fun sp c' k1 k2=>⟨(n2+1,c',_,((i+1:Nat):Int)),by dsimp only;omega,by and_intros<;>first|rfl|trivial,i+1,S++[_],rfl,by omega,by simp [hS],(g.mono fun _ _ g=>tJ.le g Vw).snoc (xs:=[_,_,_,_,_,_]) rfl ⟨gs0,(sa1.add ((rz (z:=1) (by omega)).mul sb1)).mono (by omega),(U_.add ((rz (z:=1) (by omega)).mul Va)).mono (by omega)⟩ (by decide) k1 k2,done (Lv a0 b0 c0)⟩⟩
 ·have hlt:i=L.length:=by have:=of_decide_eq_false hlt;omega
  have gc:=g.cap
  have Ul:=g.le
  subst gl
  exact ⟨_,S.length,c2,m,S,rfl,ry,Ly hm0 (by omega) sm,sg.perm,by omega,og.tE hbk (g.row.le fun _ _ g=>tJ.le g wM) (by decide) (by omega)⟩
def Eo (V:View)(vs:List Value)(i:Nat)(d:Nd):Prop:=∃(b1:Bool)(p1:OA)(n1 c1:Nat)(b2:Bool)(p2:OA)(n2 c2:Nat)(b3:Bool)(p3:OA)(n3 c3:Nat),
 (∀j v,([.bool b1,.slice p1 n1 c1,.bool b2,.slice p2 n2 c2,.bool b3,.slice p3 n3 c3,.int .i64 d.left,.int .i64 d.right]:List Value)[j]?=some v->vs[i*8+j]?=some v) /\
 HO V (.agg #[.bool b1,.slice p1 n1 c1,.bool b2,.slice p2 n2 c2,.bool b3,.slice p3 n3 c3]) d.ln
theorem Eo.le {V V':View}{vs:List Value}{i:Nat}{d:Nd}(h:Eo V vs i d)(hl:V.Le V'):Eo V' vs i d:=by
 obtain ⟨b1,p1,n1,c1,b2,p2,n2,c2,b3,p3,n3,c3,h1,h2⟩:=h
 exact ⟨b1,p1,n1,c1,b2,p2,n2,c2,b3,p3,n3,c3,h1,h2.le hl⟩
theorem G2 {vs xs:List Value}{k i:Nat}(hx:xs.length=8)(h:k*8+8<=vs.length)(hi:i<k*8\/k*8+8<=i):(vs.take (k*8)++xs++vs.drop (k*8+8))[i]?=vs[i]?:=by
 have ht:(vs.take (k*8)).length=k*8:=by rw [List.length_take];omega
 rcases hi with hi|hi
 ·rw [List.append_assoc,List.getElem?_append_left (by omega),List.getElem?_take,if_pos hi]
 ·rw [List.getElem?_append_right (by rw [List.length_append];omega),List.length_append,ht,hx,List.getElem?_drop]
  congr 1
  omega
theorem Xm {a b c d e f g h v:Value}{j:Nat}(hv:([a,b,c,d,e,f,g,h]:List Value)[j]?=some v):j<8:=by
 rcases Nat.lt_or_ge j 8 with hj|hj
 ·exact hj
 ·rw [List.getElem?_eq_none (by simpa using hj)] at hv;cases hv
theorem Eo.out {V:View}{vs xs:List Value}{k i:Nat}{d:Nd}(h:Eo V vs i d)(hx:xs.length=8)(hk:k*8+8<=vs.length)(hi:i≠k):Eo V (vs.take (k*8)++xs++vs.drop (k*8+8)) i d:=by
 obtain ⟨b1,p1,n1,c1,b2,p2,n2,c2,b3,p3,n3,c3,h1,h2⟩:=h
 refine ⟨b1,p1,n1,c1,b2,p2,n2,c2,b3,p3,n3,c3,fun j v hv=>?_,h2⟩
 have:=Xm hv
 rw [G2 hx hk (by omega)]
 exact h1 j v hv
def vm (n b m:Nat):Nat:=(n-1-m+(n-b))%n
def DZ (V:View):View:=⟨V.w,fun b=>b<V.w.heap.size,fun _=>False,fun _ h=>h,fun _ h=>h.elim⟩
theorem Cv {f:FuncId}{args:Array Value}{V:View}{o:Obj}(h:ab prog f args (DZ V) fun r V'=>∃bk,r=.pointer (some ⟨bk,0,none⟩)/\V'.bE bk o) :
  ab prog f args V fun r V'=>∃bk,r=.pointer (some ⟨bk,0,none⟩)/\V.w.heap.size<=bk/\V'.bE bk o:=
 ⟨h.1,h.2.mono fun _ _ ⟨_,he,hx,bk,hr,hb⟩=>⟨_,he,⟨hx.size,fun b hb _=>hx.bE b hb (fun h=>h),hx.os,hx.tape,hx.out⟩,bk,hr,Nat.le_of_not_lt hb.1,fun hh=>hb.1 (V.hH bk hh),hb.2⟩⟩
theorem AR {V:View}{lp:OA}{ln lc:Nat}(hc:ln<=lc) :
  ab prog 10 #[.slice lp ln lc] V fun r V'=>∃bk,r=.pointer (some ⟨bk,0,none⟩)/\V.w.heap.size<=bk/\V'.bE bk (.cells #[.slice lp (min ln 400) lc,.int .i64 0] 95 (0,0)):=by
 refine Cv (Ak lp ln lc (DZ V) _ ?_)
 have e:bR (ln:Int) 400=((min ln 400:Nat):Int):=by
  unfold bR
  simp only [Nat.min_def]
  split<;>split<;>omega
 rw [e,Int.toNat_natCast]
 have:=Nat.min_le_left ln 400
 exact ⟨⟨by omega,by omega⟩,fun V1 l1 bk hb=>⟨bk,rfl,hb⟩⟩
theorem IM {t:Tr}(h:t.lG Ft):t.lG fun x=>j9 x=true:=Tr.lG.imp (fun _ h=>h.1) h
theorem Lc {t:Tr}(h:t.lG Ft):t.lG Bd:=Tr.lG.imp (fun _ h=>h.2) h
theorem Fa (l:List (Rat×Rat)):∃m:List (Rat×Rat),m.Perm l/\m.Pairwise fun x y=>¬dq y x<0:=by
 refine ⟨l.mergeSort (fun x y=>decide (¬dq y x<0)),List.mergeSort_perm ..,?_⟩
 refine (List.pairwise_mergeSort (le:=fun x y=>decide (¬dq y x<0)) (fun a b c h1 h2=>?_) (fun a b=>?_) l).imp fun h=>of_decide_eq_true h
 ·exact decide_eq_true (ay.tS c b a (of_decide_eq_true h2) (of_decide_eq_true h1))
 ·by_cases h:dq b a<0
  ·have:=ay.yJ b a h
   rw [Bool.or_eq_true]
   exact .inr (decide_eq_true this)
  ·rw [Bool.or_eq_true]
   exact .inl (decide_eq_true h)
theorem indep {t:Tr}{l:L3}(ho:(Tr.node l t t).lG fun l=>¬(l.1=0/\l.2.1=0)){p:Rat×Rat}{a b:Int}(h1:kJ t p a)(h2:kJ (.node l t t) p b):a=b:=by
 obtain ⟨m,pm,pw⟩:=Fa (iW (ay.cM (.node l t t) p))
 obtain ⟨ry,cv⟩:=Ed (D6 ho) pm pw
 have sm:=rv ry
 have sub:∀x∈ay.cM t p,x∈ay.cM (.node l t t) p:=fun x hx=>by
  rw [ay.cM]
  by_cases e:cB l p.1 p.2≥0
  ·rw [if_pos e];exact List.mem_append_right _ (List.mem_append_left _ hx)
  ·rw [if_pos (show cB l p.1 p.2<=0 by grind)];exact List.mem_append_right _ (List.mem_append_right _ hx)
 have e1:=h1 _ _ ry sm fun l hl=>cv l (sub l hl)
 have e2:=h2 _ _ ry sm cv
 generalize jF (fj eP m)=S at *
 have key:∀v∈S,ay.fC (.node l t t) p v=ay.fC t p v:=fun v hv=>by
  have n:=cv.gen (ay.qm ry sm v hv)
  have:=(ay.kB n fun l _=>⟨id,id⟩).2
  rw [ay.fC] at this ⊢
  split
  ·rfl
  ·rename_i q
   rw [if_neg q] at this
   split
   ·rfl
   ·rename_i q'
    rw [if_neg q'] at this
    cases this
 have k1:ay.anyS (.node l t t) p S=ay.anyS t p S:=by
  unfold ay.anyS
  rw [Bool.eq_iff_iff,List.any_eq_true,List.any_eq_true]
  constructor
  ·rintro ⟨x,hx,h⟩;exact ⟨x,hx,by rw [←key x hx];exact h⟩
  ·rintro ⟨x,hx,h⟩;exact ⟨x,hx,by rw [key x hx];exact h⟩
 have k2:ay.iD (.node l t t) p S=ay.iD t p S:=by
  unfold ay.iD
  rw [Bool.eq_iff_iff,List.all_eq_true,List.all_eq_true]
  constructor
  ·intro h x hx;rw [←key x hx];exact h x hx
  ·intro h x hx;rw [key x hx];exact h x hx
 rw [e1,e2,k1,k2]
theorem FR (l:L3):cJ (cJ l)=cJ l:=by
 unfold cJ
 by_cases h:l.1<0\/l.1=0/\l.2.1<0
 ·rw [if_pos h,if_neg]
  unfold wR
  dsimp only
  omega
 ·rw [if_neg h,if_neg h]
theorem IL {l:L3}(h:j9 l=true):j9 (cJ l)=true:=by
 unfold cJ
 split
 ·unfold j9 wR ji at *
  simp only [Int.natAbs_neg]
  rw [Bool.and_eq_true,decide_eq_true_iff,decide_eq_true_iff] at h ⊢
  exact ⟨fun e=>h.1 ⟨by omega,by omega⟩,h.2⟩
 ·exact h
theorem Ih {t:Tr}(ha:t.lG Ft):(∀l∈cS t.qF,Bd l)/\(∀l∈cS t.qF,j9 l=true/\cJ l=l)/\(cS t.qF).Nodup/\(cS t.qF).length<=t.size:=by
 refine ⟨ux (fun _ h=>h.can) fun l hl=>(jx ha l hl).2,fun l hl=>?_,List.Pairwise.imp (S:=fun a b=>a≠b) (fun {a b} h e=>by subst e;exact NZ h) (iN t.qF).1,by have:=qY t.qF;rwa [lg] at this⟩
 obtain ⟨m,hm,rfl⟩:=List.mem_map.1 ((iN t.qF).2 l |>.1 hl)
 exact ⟨IL (jx ha m hm).1,FR m⟩
theorem F2 {t:Tr}{p:Rat×Rat}{E:List (Rat×Rat)}(pm:E.Perm (eM p (cS t.qF))):ay.En E (ay.cM t p):=
 F0 pm fun l hl=>⟨(ay.mz hl).1,(iN t.qF).2 _ |>.2 (List.mem_map_of_mem (ay.mz hl).2)⟩
theorem IJ (l:L3):ay.nv l (0,0)=0:=by unfold ay.nv;simp only [Rat.mul_zero,Rat.add_zero]
theorem rk {p:Rat×Rat}:∀{t:Tr},(ay.fC t p (0,0)).2=true->ay.cM t p=[]/\∀v,ay.fC t p v=ay.fC t p (0,0)
 | .leaf _,_=>⟨rfl,fun _=>rfl⟩
 | .node l a b,h=>by
  have hs:ay.wT l p (0,0)=(cB l p.1 p.2).num.sign:=by
   unfold ay.wT
   split
   ·rename_i e;rw [IJ,e];rfl
   ·rfl
  rw [ay.fC] at h
  simp only [hs] at h
  by_cases h1:cB l p.1 p.2>0
  ·have e1:=ay.zM.2 h1
   rw [e1,if_pos rfl] at h
   obtain ⟨i1,i2⟩:=rk h
   have hv:∀v,ay.wT l p v=1:=fun v=>by unfold ay.wT;rw [e1,if_neg (by decide)]
   refine ⟨?_,fun v=>?_⟩
   ·rw [ay.cM,if_neg (by grind),if_pos (by grind),if_neg (by grind),i1];rfl
   ·rw [ay.fC,hv,if_pos rfl,i2 v,ay.fC,hv,if_pos rfl]
  ·by_cases h2:cB l p.1 p.2<0
   ·have e1:=ay.vl.2 h2
    rw [e1,if_neg (by decide),if_pos rfl] at h
    obtain ⟨i1,i2⟩:=rk h
    have hv:∀v,ay.wT l p v=-1:=fun v=>by unfold ay.wT;rw [e1,if_neg (by decide)]
    refine ⟨?_,fun v=>?_⟩
    ·rw [ay.cM,if_neg (by grind),if_neg (by grind),if_pos (by grind),i1];rfl
    ·rw [ay.fC,hv,if_neg (by decide),if_pos rfl,i2 v,ay.fC,hv,if_neg (by decide),if_pos rfl]
   ·have e0:=ay.dT.2 (show cB l p.1 p.2=0 by grind)
    rw [e0,if_neg (by decide),if_neg (by decide)] at h
    cases h
theorem Lx {D S:List (Rat×Rat)}(h:ay.Er D S):S≠[]:=by
 rcases h with ⟨-,rfl⟩|⟨h0,-,h2⟩
 ·simp
 ·have hl:0<D.length:=List.length_pos_iff.2 h0
  obtain ⟨x,hx,-⟩:=h2 0 _ _ (List.getElem?_eq_getElem hl) (List.getElem?_eq_getElem (Nat.mod_lt _ hl))
  exact List.ne_nil_of_mem hx
theorem FV (x:Bool×Bool)(h:x.2=true):(xU x==(-2:Int))=x.1:=by
 obtain ⟨a,b⟩:=x
 cases h
 cases a<;>rfl
theorem mh {V:View}{e:Value}(he:sC V 0 e){lp:OA}{ln lc:Nat}(hr:Ep V lp ln)(hc:ln<=lc) :
  ab prog 6 #[.slice lp ln lc] V fun r V'=>r=.bool true:=by
 refine l_ lp ln lc V _ fun V1 l1=>(AR hc).mono ?_
 rintro r V2 l2 ⟨bk1,rfl,hfr,hb⟩
 refine ⟨bk1,_,_,_,_,rfl,hfr,hb,fun V3 l3 Ko e4 h4=>?_⟩
 have cd:V1.Le V3:=fun b o h=>l3 b o ⟨fun hh=>hh.elim (l2 b o h).1 fun e=>by
  have hlt:b<V1.w.heap.size:=by
   rcases Nat.lt_or_ge b V1.w.heap.size with h'|h'
   ·exact h'
   ·have:=h.2;rw [Array.getElem?_eq_none h'] at this;cases this
  have:=e.1
  omega,(l2 b o h).2⟩
 have hmin:min ln 400<=400:=Nat.min_le_right _ _
 have hr:Ep V lp (min ln 400):=fun i hi=>hr i (Nat.lt_of_lt_of_le hi (Nat.min_le_left _ _))
 generalize min ln 400=n at *
 have UU:V.Le V3:=l1.trans cd
 refine (Kq 4 (V:=V3.au [Ko]) (by omega) (hr.le fun b o h=>UU b o h) hmin e4 ⟨by simp,h4⟩ (Int.le_refl 0)).mono ?_
 rintro r V4 l4 ⟨qa,t,FD,rfl,Na,HJ,hsa,t1,hw1⟩
 have Cp:V.Le V4:=fun b o h=>l4 b o (UU b o h)
 refine ⟨_,rfl,_,_,_,_,hw1,fun V5 l5 Jw e5 h5=>(yV (V:=V5.au [Jw]) (hr.le fun b o h=>l5 b o (Cp b o h)) hmin e5 ⟨by simp,h5⟩ t1 (RW.le (V:=V4) (V':=V5.au _) (fun b o h=>l5 b o h) Na) HJ (by omega)).mono ?_⟩
 rintro r V6 l6 ⟨p,at2,hp,sp1,sp2,t2,hw2⟩
 have hp0:=hp
 obtain ⟨_,_,_,_,_,_,_,_,_,_,_,_,rfl,-⟩:=hp
 have l46:V4.Le V6:=fun b o h=>l6 b o (l5 b o h)
 have Oj:nI (wr 0 t) (rt 0 t)=some t:=GQ (IM HJ) (by omega)
 have Pp:∀x∈wr 0 t,Bd x.ln:=pT (Lc HJ)
 refine ⟨_,_,_,_,_,_,_,_,_,_,_,_,_,_,rfl,_,_,_,_,hw2,fun V7 l7=>(nT (RW.le (V:=V4) (V':=V7) (fun b o h=>l7 b o (l46 b o h)) Na) HJ (by omega)).mono ?_⟩
 rintro r V8 l8 hA
 have KC:=hA
 obtain ⟨pa,na,ca,rfl,-⟩:=hA
 have UZ:V6.Le V8:=fun b o h=>l8 b o (l7 b o h)
 refine ⟨_,_,_,_,rfl,fun V9 l9=>(gv (hp0.le (UZ.trans l9)) sp1 sp2 (by omega)).mono ?_⟩
 rintro r g_ l10 hq
 have hq0:=hq
 obtain ⟨_,_,_,_,_,_,_,_,_,_,_,_,_,_,rfl,-⟩:=hq
 have zk:=UZ.trans (l9.trans l10)
 have ID:=l9.trans l10
 refine ⟨_,_,_,_,_,_,_,_,_,_,_,_,_,_,rfl,fun gW bI=>(mi (p:=p) Pp (KC.le (ID.trans bI)) (wc.of (p:=p) (hq0.le bI) sp1 sp2 (by omega)) (sp1.mono (by omega)) (sp2.mono (by omega)) (fun t' ht=>by rw [Oj] at ht;cases ht;omega) (fun _ _ n c=>Lz n c _) (he.le (Cp.trans (l46.trans (zk.trans bI))))).mono ?_⟩
 rintro r lH cw ⟨-,q1⟩
 obtain ⟨k1,rfl,hk1⟩:=q1 t Oj
 have D1:=bI.trans cw
 refine ⟨_,_,rfl,fun lU cd=>(wC Pp (KC.le (ID.trans (D1.trans cd))) (wc.of (p:=p) (hq0.le (D1.trans cd)) sp1 sp2 (by omega)) (sp1.mono (by omega)) (sp2.mono (by omega)) (he.le (Cp.trans (l46.trans (zk.trans (D1.trans cd)))))).mono ?_⟩
 rintro r po dN ⟨-,q2⟩
 have q2:=q2 t Oj
 subst q2
 have D2:=D1.trans (cd.trans dN)
 refine ⟨_,_,_,rfl,fun nF dk=>(gO (d:=(0,0)) Pp (KC.le (ID.trans (D2.trans dk))) (wc.of (p:=p) (hq0.le (D2.trans dk)) sp1 sp2 (by omega)) wc.zero (sp1.mono (by omega)) (sp2.mono (by omega)) mI mI (he.le (Cp.trans (l46.trans (zk.trans (D2.trans dk)))))).mono ?_⟩
 rintro r mW dm ⟨-,q3⟩
 have q3:=q3 t Oj
 subst q3
 have JN:=D2.trans (dk.trans dm)
 have R8:=l46.trans (zk.trans JN)
 have hcl:(ay.fC t p (0,0)).2=true->k1=if (ay.fC t p (0,0)).1 then 2 else 0:=fun h=>by
  obtain ⟨m1,m2⟩:=rk h
  rw [kX hk1 m1,m2 (1,0)]
 refine ⟨_,_,_,rfl,fun z _=>z=false,?_,?_⟩
 ·rcases ht:ay.fC t p (0,0) with ⟨a,b⟩
  rw [ht] at hcl
  refine ⟨pX.1,(fun h=>by rw [pX.2] at h;cases h),fun _=>⟨pX.1,(fun h=>by rw [pX.2] at h;cases h),fun _=>⟨pX.1,(fun h=>by rw [pX.2] at h;cases h),fun _=>⟨(fun h=>absurd h (by simp)),fun _=>⟨(fun h=>absurd h (by simp)),fun _=>?_⟩⟩⟩⟩⟩
  cases b
  ·exact ⟨(fun h=>by cases h),fun _=>⟨false,by and_intros<;>rfl,rfl⟩⟩
  ·have hcl:=hcl rfl
   subst hcl
   cases a
   ·exact ⟨fun _=>⟨(fun h=>absurd h (by decide)),fun _=>⟨fun _=>⟨(fun h=>absurd h (by decide)),fun _=>⟨fun _=>⟨false,by and_intros<;>rfl,rfl⟩,(fun h=>absurd h (by decide))⟩⟩,(fun h=>absurd h (by decide))⟩⟩,(fun h=>absurd h (by decide))⟩
   ·exact ⟨fun _=>⟨fun _=>⟨(fun h=>absurd h (by decide)),fun _=>⟨(fun h=>absurd h (by decide)),fun _=>⟨(fun h=>absurd h (by decide)),fun _=>⟨false,by and_intros<;>rfl,rfl⟩⟩⟩⟩,(fun h=>absurd h (by decide))⟩,(fun h=>absurd h (by decide))⟩
 rintro z nN cP rfl
 have NB:=JN.trans cP
 have R9:=R8.trans cP
 refine ⟨by trivial,(fun h=>by cases h),fun _ tq dR=>(nS (RW.le (V:=V4) (R9.trans dR) Na) HJ (by omega)).mono ?_⟩
 rintro r An iQ ⟨ps,m,cs,rfl,hL⟩
 obtain ⟨d1,d2,d3,d4⟩:=Ih HJ
 have JO:=NB.trans (dR.trans iQ)
 refine ⟨_,_,_,rfl,fun tu eh=>(sG (hL.le eh fun _ _ g=>mV.le g eh) d1 d2 d3 (by omega) (hp0.le (zk.trans (JO.trans eh))) (sp1.mono (by omega)) (sp2.mono (by omega))).mono ?_⟩
 rintro r wi kq ⟨q',n',c',E,S,rfl,ry,sm,pm,hS,hl⟩
 have cv:=F2 pm
 have hn:=hl.len
 subst hn
 have NC:=JO.trans (eh.trans kq)
 refine ⟨_,_,_,rfl,fun z _=>∃i:Nat,z.2.2=(i:Int)/\i<=S.length/\z.1=ay.anyS t p (S.take i)/\z.2.1=ay.iD t p (S.take i),fun z=>(S.length-z.2.2).toNat,⟨(false,true,0),by and_intros<;>first|rfl|trivial,0,rfl,Nat.zero_le _,rfl,rfl⟩,?_⟩
 rintro ⟨z1,z2,z3⟩ tM fB ⟨i,e,hi,f1,f2⟩
 dsimp only at e f1 f2 ⊢
 subst e f1 f2
 have JP:=NC.trans fB
 have Nx:=Cp.trans (l46.trans (zk.trans JP))
 refine ⟨by trivial,fun hlt=>?_,fun hlt Fw uN=>(EA (he.le (Nx.trans uN))).mono ?_⟩
 ·have hlt:i<S.length:=by have:=of_decide_eq_true hlt;omega
  have w1:i64.wrap ((i:Int)+1)=((i+1:Nat):Int):=by rw [ar (by omega)];rfl
  rw [w1,Int.toNat_natCast]
  obtain ⟨is,x1,x2,x3,x4,x5,x6,x7,x8,x9,x10,LK,LM,LN,LO,a,had,a0,a1,a2,a3,a4,a5,g1⟩:=IH (hl.le fB fun _ _ g=>tJ.le g fB) hlt
  refine ⟨is,⟨by omega,by omega⟩,x1,x2,x3,x4,x5,x6,x7,x8,x9,x10,LK,LM,LN,LO,a,had,a0,a1,a2,a3,a4,a5,fun Cu pg=>(gv (g1.1.le pg) g1.2.1 g1.2.2 (by omega)).mono ?_⟩
  rintro r DN gF hv
  have hv0:=hv
  obtain ⟨_,_,_,_,_,_,_,_,_,_,_,_,_,_,rfl,-⟩:=hv
  have JQ:=JP.trans (pg.trans gF)
  refine ⟨_,_,_,_,_,_,_,_,_,_,_,_,_,_,rfl,fun Fv nV=>(gO (d:=S[i]) Pp (KC.le (ID.trans (JQ.trans nV))) (wc.of (p:=p) (hq0.le (JQ.trans nV)) sp1 sp2 (by omega)) (wc.of (p:=S[i]) (hv0.le nV) g1.2.1 g1.2.2 (by omega)) (sp1.mono (by omega)) (sp2.mono (by omega)) (g1.2.1.mono (by omega)) (g1.2.2.mono (by omega)) (he.le (Nx.trans (pg.trans (gF.trans nV))))).mono ?_⟩
  rintro r Js lY ⟨-,q4⟩
  have q4:=q4 t Oj
  subst q4
  have hg:(ay.fC t p S[i]).2=true:=(ay.kB (cv.gen (ay.qm ry sm _ (List.getElem_mem hlt))) fun l _=>⟨id,id⟩).2
  have hc:=FV (ay.fC t p S[i]) hg
  refine ⟨_,_,_,rfl,pX.1,(fun h=>by rw [pX.2] at h;cases h),fun _=>⟨(fun h=>by rw [hg] at h;cases h),fun _=>⟨fun k=>⟨fun k'=>⟨(_,_,((i+1:Nat):Int)),by dsimp only;omega,by and_intros<;>first|rfl|trivial,i+1,rfl,by omega,?_,?_⟩,fun k'=>⟨(_,_,((i+1:Nat):Int)),by dsimp only;omega,by and_intros<;>first|rfl|trivial,i+1,rfl,by omega,?_,?_⟩⟩,
   fun k=>⟨fun k'=>⟨(_,_,((i+1:Nat):Int)),by dsimp only;omega,by and_intros<;>first|rfl|trivial,i+1,rfl,by omega,?_,?_⟩,fun k'=>⟨(_,_,((i+1:Nat):Int)),by dsimp only;omega,by and_intros<;>first|rfl|trivial,i+1,rfl,by omega,?_,?_⟩⟩⟩⟩⟩
  ·rw [iw hlt,k];rfl
  ·rw [iu hlt,k',hc];rfl
  ·rw [iw hlt,k];rfl
  ·rw [iu hlt,k'];rfl
  ·rw [iw hlt,k,hc];rfl
  ·rw [iu hlt,k',hc];rfl
  ·rw [iw hlt,k,hc];rfl
  ·rw [iu hlt,k'];rfl
 ·have hlt:i=S.length:=by have:=of_decide_eq_false hlt;omega
  subst hlt
  rw [List.take_length]
  rintro r Mt Cq rfl
  have kc:k1=AU (ay.anyS t p S) (ay.iD t p S):=hk1 E S ry sm cv
  have ka:=@DO t p S (Lx sm)
  subst kc
  refine ⟨_,rfl,fun _=>⟨fun _ P1 IC=>?_,fun h=>?_⟩,fun h=>by cases h⟩
  ·rcases h1:ay.anyS t p S<;>rcases h2:ay.iD t p S<;>rw [h1,h2] at ka<;>simp [AU] at ka ⊢
  ·rcases h1:ay.anyS t p S<;>rcases h2:ay.iD t p S<;>rw [h1,h2] at h<;>simp [AU] at h
end Go.Proofs.Tryz
