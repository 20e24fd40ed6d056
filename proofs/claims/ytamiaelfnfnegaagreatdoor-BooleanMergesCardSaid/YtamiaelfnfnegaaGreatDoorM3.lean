/-
Own laws, part 3. No condition.
-/
import Derived.Test.YtamiaelfnfnegaaGreatDoorM2
import Derived.ProofKit
import Derived.Test.YtamiaelfnfnegaaGreatDoorRows
import Derived.Test.YtamiaelfnfnegaaGreatDoorTie
import Derived.Test.YtamiaelfnfnegaaGreatDoorCards
import Derived.LaidMore
import Derived.OpenShut
import Derived.ShutString
import Derived.ChangeMaps5
import Derived.Lay
import Derived.LaidOnce
import Derived.SevenTiedAt
import Derived.SizedLaws
import Derived.Lib.SplitLaws
import Derived.Lib.RowBridge
import Derived.Sort.Grow
namespace Go.Proofs.YtamiaelfnfnegaaGreatDoor.Sx
open Go Go.Proofs
set_option linter.unusedVariables false
set_option linter.unusedSimpArgs false
set_option maxRecDepth 20000
set_option maxHeartbeats 4000000
section
@[reducible] def dens:List Ty->Type
 |[]=>Unit
 |[t]=>t.den
 |t::r=>t.den×dens r
def Bnds:(ts:List Ty)->List Bd->dens ts->Prop
 |[],[],_=>True
 |[t],[b],x=>Bnd t b x
 |t::u::r,b::bs,x=>Bnd t b x.1/\Bnds (u::r) bs x.2
 |_,_,_=>False
def mkC(t:Ty)(b:Bd)(x:t.den):WC:=bif t.agg then .agg [.dt t b x]else .one (.dt t b x)
def argC(t:Ty)(x:t.den):AV:=bif t.agg then .c (.agg (ql t x))else .c (.one ((ql t x).headD (.val (.bool false))))
def argsE:(ts:List Ty)->dens ts->List AV
 |[],_=>[]
 |[t],x=>[argC t x]
 |t::u::r,x=>argC t x.1::argsE (u::r) x.2
def jE:(ts:List Ty)->List Bd->dens ts->List WV
 |[],_,_=>[]
 |[t],bs,x=>[.c (mkC t (bs.headD .u) x)]
 |t::u::r,bs,x=> .c (mkC t (bs.headD .u) x.1)::jE (u::r) bs.tail x.2
theorem K9(t:Ty)(b:Bd)(x:t.den):(WV.c (mkC t b x)).exp=argC t x:=by
 unfold mkC argC
 cases t.agg with
 |true=>simp[WV.exp,WC.exp,zW]
 |false=>rfl
theorem wH: ∀(ts:List Ty)(bs:List Bd)(x:dens ts),(jE ts bs x).map WV.exp=argsE ts x
 |[],_,_=>rfl
 |[t],bs,x=>by simp only[jE,argsE,q5b,K9,List.map_nil]
 |t::u::r,bs,x=>by simp only[jE,argsE,q5b,K9,wH (u::r)]
theorem Ty.w_one: ∀{t:Ty},t.agg=false->t.w=1
 | .nat _,_| .int _,_| .bool,_| .str,_| .mag,_| .sl _,_| .fn _,_| .pt _,_| .cl _ _,_=>rfl
 | .rat,h| .pr _ _,h| .st _,h=>by simp[Ty.agg]at h
theorem IS{t:Ty}{b:Bd}{x:t.den}(h:Bnd t b x):(mkC t b x).ok:=by
 unfold mkC
 cases ht:t.agg with
 |true=>exact v8 h
 |false=>exact⟨h,Ty.w_one ht⟩
theorem Al: ∀{ts:List Ty}{bs:List Bd}{x:dens ts},Bnds ts bs x-> ∀v∈jE ts bs x,v.ok
 |[],[],_,_,v,hv=>by simp[jE]at hv
 |[t],[b],x,h,v,hv=>by simp[jE]at hv;subst hv;exact IS h
 |t::u::r,b::bs,x,h,v,hv=>by
  simp only[jE,List.headD_cons,List.tail_cons,q5d]at hv;rcases hv with rfl|hv
  .exact IS h.1
  .exact Al (ts:=u::r) h.2 v hv
 |[],_::_,_,h,_,_=>h.elim
 |[_],[],_,h,_,_=>h.elim
 |[_],_::_::_,_,h,_,_=>h.elim
 |_::_::_,[],_,h,_,_=>h.elim
def BB:WC->Bool
 | .agg _=>true
 | .one _=>false
def beqB(a b:Bool):Bool:=(a&&b)||(!a&&!b)
theorem YF{a b:Bool}(h:beqB a b=true):a=b:=by cases a<;>cases b<;>first|rfl|cases h
def CQ(t:Ty):WV->Option (Bd×t.den)
 | .c x=>bif beqB (BB x) t.agg then(match reify t x.cells with
  |some (b,v,[])=>some (b,v)
  |_=>none)else none
 |_=>none
def zy:(ts:List Ty)->List WV->Option (List Bd×dens ts)
 |[],[]=>some ([],())
 |[t],[v]=>match CQ t v with
  |some (b,x)=>some ([b],x)
  |none=>none
 |t::u::r,v::vs=>match CQ t v with
  |some (b,x)=>match zy (u::r) vs with
   |some (bs,y)=>some (b::bs,(x,y))
   |none=>none
  |none=>none
 |_,_=>none
theorem Eb{t:Ty}{v:WV}{b:Bd}{x:t.den}(h:CQ t v=some (b,x))(hv:v.ok):(∀β H u,v.exp.sat β H u->(argC t x).sat β H u)/\Bnd t b x:=by
 unfold CQ at h;split at h
 .rename_i y
  cases hb:beqB (BB y) t.agg with
  |false=>rw[hb]at h;cases h
  |true=>
   rw[hb]at h;simp only[cond_true]at h
   have hb:=YF hb;split at h
   .rename_i b' x' hr
    simp only[q61,q62]at h;obtain⟨rfl,rfl⟩:=h
    obtain⟨m,e1,i1,o1⟩:=z6 hr;have e1:WAs.exp y.cells=m:=by rw[e1];simp[WAs.exp]
    subst e1;have hok:y.ok:=hv;refine⟨?_,(o1 (WC.ok_cells hok)).1⟩;unfold argC
    cases y with
    |agg l=>
     rw[<-hb];exact IK (MN i1)
    |one a=>
     rw[<-hb]
     have ha:WAs.exp (WC.one a).cells=[a.exp.headD (.val (.bool false))]:=by
      have:=WC.exp_cells hok;rw[<-this];rfl
     rw[ha]at i1;show∀β H u,(AV.c (.one _)).sat β H u->_
     match hc:ql t x',i1 with
     |[c],i1=>exact IK (MO i1.1)
   .cases h
 .cases h
theorem A4: ∀{ts:List Ty}{vs:List WV}{bs:List Bd}{x:dens ts},zy ts vs=some (bs,x)->(∀v∈vs,v.ok)->VImps (vs.map WV.exp) (argsE ts x)/\Bnds ts bs x/\vs.length=ts.length
 |[],[],bs,x,h,_=>by simp[zy]at h;subst h;exact⟨trivial,trivial,rfl⟩
 |[t],[v],bs,x,h,hv=>by
  simp only[zy]at h
  cases h1:CQ t v with
  |none=>rw[h1]at h;cases h
  |some q=>
   obtain⟨b,y⟩:=q;rw[h1]at h;simp only[q61,q62]at h;obtain⟨rfl,rfl⟩:=h
   obtain⟨h2,h3⟩:=Eb h1 (hv v (by simp));exact⟨⟨h2,trivial⟩,h3,rfl⟩
 |t::u::r,v::vs,bs,x,h,hv=>by
  simp only[zy]at h
  cases h1:CQ t v with
  |none=>rw[h1]at h;cases h
  |some q=>
   obtain⟨b,y⟩:=q;rw[h1]at h;simp only at h
   cases h4:zy (u::r) vs with
   |none=>rw[h4]at h;cases h
   |some q=>
    obtain⟨bs',z⟩:=q;rw[h4]at h;simp only[q61,q62]at h;obtain⟨rfl,rfl⟩:=h
    obtain⟨h2,h3⟩:=Eb h1 (hv v q5f);obtain⟨h5,h6,h7⟩:=A4 h4 (λw hw=>hv w (q5e _ hw));exact⟨⟨h2,h5⟩,⟨h3,h6⟩,by simp[h7]⟩
 |[],_::_,_,_,h,_=>by simp[zy]at h
 |[_],[],_,_,h,_=>by simp[zy]at h
 |[_],_::_::_,_,_,h,_=>by simp[zy]at h
 |_::_::_,[],_,_,h,_=>by simp[zy]at h
def Bds.le:List Bd->List Bd->Bool
 |[],[]=>true
 |a::r,b::s=>a.le b&&Bds.le r s
 |_,_=>false
theorem Bnds.mono: ∀{ts:List Ty}{a b:List Bd}{x:dens ts},Bds.le a b=true->Bnds ts a x->Bnds ts b x
 |[],[],[],_,_,_=>trivial
 |[t],[a],[b],x,h,k=>by simp only[Bds.le,q4L]at h;exact Bnd.mono h.1 k
 |t::u::r,a::cs,b::bs,x,h,k=>by
  simp only[Bds.le,q4L]at h;exact⟨Bnd.mono h.1 k.1,Bnds.mono (ts:=u::r) h.2 k.2⟩
 |[],[],_::_,_,h,_=>by simp[Bds.le]at h
 |[],_::_,_,_,_,k=>k.elim
 |[_],[],_,_,_,k=>k.elim
 |[_],_::_::_,_,_,_,k=>k.elim
 |[_],[_],[],_,h,_=>by simp[Bds.le]at h
 |[_],[_],_::_::_,_,h,_=>by simp[Bds.le]at h
 |_::_::_,[],_,_,_,k=>k.elim
 |_::_::_,_::_,[],_,h,_=>by simp[Bds.le]at h
structure Ctr (P:Program) where
 f:FuncId
 ts:List Ty
 bs:List Bd
 pre:dens ts->List Prop
 res:List Bd->dens ts->WV
 sig: ∀x,Bnds ts bs x->(∀p∈pre x,p)->Sig P f (argsE ts x) (res bs x).exp
 hexp: ∀b x,(res b x).exp=(res bs x).exp
 okr: ∀b x,Bnds ts b x->(∀p∈pre x,p)->(res b x).ok
structure CtrO (P:Program) where
 f:FuncId
 ts:List Ty
 bs:List Bd
 pre:dens ts->List Prop
 res:Nat->List Bd->dens ts->WV
 blk:List Bd->dens ts->WB
 sig: ∀d x,Bnds ts bs x->(∀p∈pre x,p)->SigG P f (argsE ts x) [] (res d bs x).exp [(d,some (blk bs x).exp)]
 hexp: ∀d b x,(res d b x).exp=(res d bs x).exp/\(blk b x).exp=(blk bs x).exp
 okr: ∀d b x,Bnds ts b x->(∀p∈pre x,p)->(res d b x).ok/\(blk b x).ok
structure CtrB (P:Program) where
 f:FuncId
 t:Ty
 tb:Bd
 ts:List Ty
 bs:List Bd
 pre:t.den->dens ts->List Prop
 res:Bd->List Bd->t.den->dens ts->WV
 new:t.den->dens ts->t.den
 nb:Bd->List Bd->Bd
 sig: ∀s x,Bnd t tb s->Bnds ts bs x->(∀p∈pre s x,p)->SigG P f (.c (.one (.loc 100000 0))::argsE ts x) [(100000,.rigid (ql t s))] (res tb bs s x).exp [(100000,some (.rigid (ql t (new s x))))]
 hexp: ∀b bb s x,(res b bb s x).exp=(res tb bs s x).exp
 hids: ∀k s x,(res tb bs s x).exp.men k=false
 okr: ∀b bb s x,Bnd t b s->Bnds ts bb x->(∀p∈pre s x,p)->(res b bb s x).ok/\Bnd t (nb b bb) (new s x)
def sA(g:Bool)(w k lo n cap:Nat):Atom:=bif g then .gs k n else .sl k (lo*w) n cap
def sB(g:Bool)(t:Ty)(l:List t.den):Blk:=bif g then .grow t.w (qI t l)else .rigid (qI t l)
def mkB(g:Bool)(t:Ty)(e:Bd)(l:List t.den):WB:=bif g then .gro t e l else .arr t e l
def mkS(g:Bool)(t:Ty)(k lo n cap nb:Nat):WA:=bif g then .gs k n t.w nb else .ls k (some lo) n cap t.w nb
structure CtrS (P:Program) where
 f:FuncId
 g:Bool
 t:Ty
 e:Bd
 m:Nat
 ts:List Ty
 bs:List Bd
 pre:List t.den->Nat->Nat->Nat->dens ts->List Prop
 res:Nat->List Bd->List t.den->Nat->Nat->Nat->dens ts->WV
 new:List t.den->Nat->Nat->Nat->dens ts->List t.den
 sig: ∀l lo n cap x,(∀u∈l,Bnd t e u)->Bnds ts bs x->n<=cap->n<=m->(∀p∈pre l lo n cap x,p)->SigG P f (.c (.one (sA g t.w 100000 lo n cap))::argsE ts x) [(100000,sB g t l)] (res 100000 bs l lo n cap x).exp [(100000,some (sB g t (new l lo n cap x)))]
 hexp: ∀k b l lo n cap x,(res k b l lo n cap x).exp=(res k bs l lo n cap x).exp
 hren: ∀k l lo n cap x,(res 100000 bs l lo n cap x).exp.map (ren 100000 k)=(res k bs l lo n cap x).exp
 okr: ∀k b l lo n cap x,Bnds ts b x->(∀u∈l,Bnd t e u)->n<=cap->n<=m->(∀p∈pre l lo n cap x,p)->(res k b l lo n cap x).ok/\ ∀u∈new l lo n cap x,Bnd t e u
section
variable {P:Program} {bl:Nat->Option WB} {ty:TypeId}
def Bn(f:FuncId):WV->Bool
 | .c (.one (.vl u))=>isFn f (.vl u)
 | .c (.one (.dt (.fn g) _ _))=>Nat.beq f g
 |_=>false
theorem CZ{f:FuncId}{v:WV}(h:Bn f v=true):v.exp=vFun f:=by
 unfold Bn at h;split at h
 .rename_i u
  have:=PT h;cases this;rfl
 .have:=q5w h;subst this;rfl
 .cases h
def SL(C:Ctr P)(vs:List WV):HR:=
 match vs with
 |v::vs=>bif Bn C.f v then(match zy C.ts vs with
  |some (bs,x)=>bif Bds.le bs C.bs then .ok (C.pre x) (C.res bs x) [] []else .bad
  |none=> .bad)else .bad
 |[]=> .bad
theorem W9{fx:Operand}{xs:Array Operand}{ts:Array TypeId}:(Op.operands (.call {callee:= .value fx,args:=xs,argTypes:=ts})).toList=fx::xs.toList:=by
 simp[Op.operands,Call.operands]
theorem q1s{C:Ctr P}{fx:Operand}{xs:Array Operand}{ts:Array TypeId}{vs:List WV}(hl:vs.length=xs.size+1):
  HOk P (.call {callee:= .value fx,args:=xs,argTypes:=ts}) ty (fx::xs.toList) vs bl (SL C vs):=by
 unfold SL;split
 .rename_i v vs
  cases hf:Bn C.f v with
  |false=>exact trivial
  |true=>
   simp only[cond_true];split
   .rename_i bs x hx
    cases hb:Bds.le bs C.bs with
    |false=>exact trivial
    |true=>
     intro hv _ hvc kin hk _;rw[qg hk];obtain⟨h1,h2,h3⟩:=A4 hx (λw hw=>hv w (q5e _ hw));refine⟨?_,C.okr bs x h2 hvc,qo⟩;have:=EX h1 (C.sig x (Bnds.mono hb h2) hvc);rw[C.hexp bs x];show OpOk P _ _ ((fx,v.exp)::List.zip xs.toList (vs.map WV.exp)) _ _ _;rw[CZ hf];exact GJ (by simp at hl;simp[hl]) this
   .exact trivial
 .exact trivial
def OJ(C:CtrO P)(d:Nat)(vs:List WV):HR:=
 match vs with
 |v::vs=>bif Bn C.f v then(match zy C.ts vs with
  |some (bs,x)=>bif Bds.le bs C.bs then .ok (C.pre x) (C.res d bs x) [] [(d,some (C.blk bs x))]else .bad
  |none=> .bad)else .bad
 |[]=> .bad
theorem Zj{C:CtrO P}{d:Nat}{fx:Operand}{xs:Array Operand}{ts:Array TypeId}{vs:List WV}(hl:vs.length=xs.size+1):
  HOk P (.call {callee:= .value fx,args:=xs,argTypes:=ts}) ty (fx::xs.toList) vs bl (OJ C d vs):=by
 unfold OJ;split
 .rename_i v vs
  cases hf:Bn C.f v with
  |false=>exact trivial
  |true=>
   simp only[cond_true];split
   .rename_i bs x hx
    cases hb:Bds.le bs C.bs with
    |false=>exact trivial
    |true=>
     intro hv _ hvc kin hk _;rw[qg hk];obtain⟨h1,h2,h3⟩:=A4 hx (λw hw=>hv w (q5e _ hw));obtain⟨o1,o2⟩:=C.okr d bs x h2 hvc;refine⟨?_,o1,zT o2⟩;have:=EX h1 (C.sig d x (Bnds.mono hb h2) hvc);rw[(C.hexp d bs x).1];show OpOk P _ _ ((fx,v.exp)::List.zip xs.toList (vs.map WV.exp)) _ _ [(d,some (C.blk bs x).exp)];rw[CZ hf,(C.hexp d bs x).2];exact GJ (by simp at hl;simp[hl]) this
   .exact trivial
 .exact trivial
def OI(C:CtrB P)(bl:Nat->Option WB)(vs:List WV):HR:=
 match vs with
 |v:: .c (.one (.loc k 0))::vs=>bif Bn C.f v then(match bl k with
  |some (.rig l)=>match reify C.t l with
   |some (b,s,[])=>match zy C.ts vs with
    |some (bs,x)=>bif b.le C.tb&&Bds.le bs C.bs then .ok (C.pre s x) (C.res b bs s x) [k] [(k,some (.rig [.dt C.t (C.nb b bs) (C.new s x)]))]else .bad
    |none=> .bad
   |_=> .bad
  |_=> .bad)else .bad
 |_=> .bad
theorem Mw(t:Ty)(x:t.den)(ρ:Nat->Nat):(argC t x).map ρ=argC t x:=by
 unfold argC;have h:(ql t x).map (Atom.map ρ)=ql t x:=E2 ρ _
 cases t.agg with
 |true=>simp only[cond_true,AV.map,Cmp.map,h]
 |false=>
  simp only[cond_false,AV.map,Cmp.map];have hl:=vI t x
  match hc:ql t x with
  |[]=>rfl
  |c::r=>
   rw[hc]at h;simp only[q5b,List.cons.injEq]at h;simp only[List.headD_cons,h.1]
theorem Fe: ∀(ts:List Ty)(x:dens ts)(ρ:Nat->Nat),(argsE ts x).map (AV.map ρ)=argsE ts x
 |[],_,_=>rfl
 |[t],x,ρ=>by simp only[argsE,q5b,Mw,List.map_nil]
 |t::u::r,x,ρ=>by simp only[argsE,q5b,Mw,Fe (u::r)]
theorem ZM{R:AV}(h: ∀k,R.men k=false)(ρ:Nat->Nat):R.map ρ=R:=by
 have ha: ∀a:Atom,(∀k,a.men k=false)->a.map ρ=a:=by
  intro a h
  cases a with
  |loc k o=>have:=h k;simp[Atom.men]at this
  |sl k a b c=>have:=h k;simp[Atom.men]at this
  |gs k n=>have:=h k;simp[Atom.men]at this
  |so k a b c=>have:=h k;simp[Atom.men]at this
  |mp k=>have:=h k;simp[Atom.men]at this
  |ks k a b c=>have:=h k;simp[Atom.men]at this
  |clo f ps=>
   match ps with
   |[]=>rfl
   |p::r=>have:=h p.1;simp[Atom.men]at this
  |_=>rfl
 have hl: ∀l:List Atom,(∀k,jC k l=false)->l.map (Atom.map ρ)=l:=by
  intro l
  induction l with
  |nil=>intro _;rfl
  |cons a l ih=>
   intro h;rw[q5b,ha a (λk=>by have:=h k;simp only[jC,Bool.or_eq_false_iff]at this;exact this.1),ih (λk=>by have:=h k;simp only[jC,Bool.or_eq_false_iff]at this;exact this.2)]
 have hc: ∀c:Cmp,(∀k,c.men k=false)->c.map ρ=c:=by
  intro c h
  cases c with
  |one a=>simp only[Cmp.map,ha a h]
  |agg l=>simp only[Cmp.map,hl l h]
 cases R with
 |c x=>simp only[AV.map,hc x h]
 |tup l=>
  simp only[AV.map]
  congr 1
  have: ∀l:List Cmp,(∀k,menC k l=false)->l.map (Cmp.map ρ)=l:=by
   intro l
   induction l with
   |nil=>intro _;rfl
   |cons a l ih=>
    intro h;rw[q5b,hc a (λk=>by have:=h k;simp only[menC,Bool.or_eq_false_iff]at this;exact this.1),ih (λk=>by have:=h k;simp only[menC,Bool.or_eq_false_iff]at this;exact this.2)]
  exact this l h
theorem OpOk.kin1{op:Op}{ins:List (Operand×AV)}{k:Nat}{b b':Blk}{R:AV}{B:Blk}(hi:BImp k b b')(h:OpOk P op ty ins [(k,b')] R [(k,some B)]):OpOk P op ty ins [(k,b)] R [(k,some B)]:=by
 intro dst pos after guard a w H β K Q h1 h2 h3 h4 hK;have e1:kwOf [(k,b)] [(k,some B)]=kwOf [(k,b')] [(k,some B)]:=by simp[kwOf,look]
 have e2:qu [(k,b)] [(k,some B)]=qu [(k,b')] [(k,some B)]:=by simp[qu,look]
 refine h dst pos after guard a w H β K Q h1 ?_ ?_ h4 ?_
 .intro p hp
  simp only[q5j]at hp;subst hp
  obtain⟨q1,q2⟩:=h2 (k,b) (by simp);exact⟨hi _ _ _ q1,q2⟩
 .intro p hp p' hp' hne
  simp only[q5j]at hp hp';subst hp hp';exact absurd rfl hne
 .intro v w' H' β' hs
  rw[<-e1,<-e2]at hs;exact hK v w' H' β' hs
theorem Zi{C:CtrB P}{fx:Operand}{xs:Array Operand}{ts:Array TypeId}{vs:List WV}(hl:vs.length=xs.size+1):
  HOk P (.call {callee:= .value fx,args:=xs,argTypes:=ts}) ty (fx::xs.toList) vs bl (OI C bl vs):=by
 unfold OI;split
 .rename_i v k vs
  cases hf:Bn C.f v with
  |false=>exact trivial
  |true=>
   simp only[cond_true];split
   .rename_i l hbl
    split
    .rename_i b s hr
     split
     .rename_i bs x hx
      cases hb:b.le C.tb&&Bds.le bs C.bs with
      |false=>exact trivial
      |true=>
       simp only[q4L]at hb;intro hv hbk hvc kin hk hkb;rw[zS hk hkb hbl];obtain⟨h1,h2,h3⟩:=A4 hx (λw hw=>hv w (q5e _ (q5e _ hw)));obtain⟨m,e1,i1,o1⟩:=z6 hr;have e1:WAs.exp l=m:=by rw[e1];simp[WAs.exp]
       subst e1;have hs:=(o1 (hbk k _ hbl)).1;obtain⟨q1,q2⟩:=C.okr b bs s x hs h2 hvc;refine⟨?_,q1,zT (v8 q2)⟩;have hsig:=C.sig s x (Bnd.mono hb.1 hs) (Bnds.mono hb.2 h2) hvc
       have hren:=QH (k:=k) (x':= .rigid (ql C.t s)) (y':= .rigid (ql C.t (C.new s x))) (R':=(C.res C.tb C.bs s x).exp) (ps':= .c (.one (.loc k 0))::argsE C.ts x) hsig
        (by simp only[q5b,Fe];simp[AV.map,Cmp.map,Atom.map,Sx.ren]) (by show Blk.rigid _=_;rw[show(ql C.t s).map (Atom.map _)=ql C.t s from E2 _ _]) (ZM (λk=>C.hids k s x) _) (by show Blk.rigid _=_;rw[show(ql C.t (C.new s x)).map (Atom.map _)=_ from E2 _ _];rfl)
       have:=EX (show VImps (.c (.one (.loc k 0))::vs.map WV.exp) (.c (.one (.loc k 0))::argsE C.ts x)from⟨QO,h1⟩) hren;rw[C.hexp b bs s x];show OpOk P _ _ ((fx,v.exp)::List.zip xs.toList (.c (.one (.loc k 0))::vs.map WV.exp)) [(k,.rigid (WAs.exp l))] _ [(k,some (.rigid (WAs.exp [.dt C.t (C.nb b bs) (C.new s x)])))];rw[CZ hf,zW];exact OpOk.kin1 (wQ i1) (GJ (by simp at hl;simp[<-hl]) this)
     .exact trivial
    .exact trivial
   .exact trivial
 .exact trivial
def slOf(g:Bool)(w:Nat):WA->Option (Nat×Nat×Nat×Nat×Nat)
 | .ls k lo n cap w' nb=>bif !g&&Nat.beq w w' then some (k,lo.getD 0,n,cap,nb)else none
 | .gs k n _ nb=>bif g then some (k,0,n,n,nb)else none
 |_=>none
theorem UZ{g:Bool}{w:Nat}{a:WA}{k lo n cap nb:Nat}(h:slOf g w a=some (k,lo,n,cap,nb)):a.exp=[sA g w k lo n cap]/\(a.ok->n<=cap/\n<=nb):=by
 unfold slOf at h;split at h
 .rename_i k' lo' n' cap' w' nb'
  cases hb:!g&&Nat.beq w w' with
  |false=>rw[hb]at h;cases h
  |true=>
   rw[hb]at h;simp only[q4L,q4N]at hb;have:=q5w hb.2;subst this;simp only[cond_true,q61,q62]at h;obtain⟨rfl,rfl,rfl,rfl,rfl⟩:=h;rw[hb.1];exact⟨rfl,λh=>h⟩
 .cases g with
  |false=>cases h
  |true=>
   simp only[cond_true,q61,q62]at h;obtain⟨rfl,rfl,rfl,rfl,rfl⟩:=h;exact⟨rfl,λh=>⟨q5B _,h⟩⟩
 .cases h
def blOf(g:Bool)(t:Ty):WB->Option (Bd×List t.den)
 | .arr t' b l=>if h:(Ty.sl t').beq (.sl t)=true then(bif g then none else some (b,va (t:= .sl t') (t':= .sl t) h l))else none
 | .gro t' b l=>if h:(Ty.sl t').beq (.sl t)=true then(bif g then some (b,va (t:= .sl t') (t':= .sl t) h l)else none)else none
 |_=>none
theorem KH{g:Bool}{t:Ty}{B:WB}{b:Bd}{l:List t.den}(h:blOf g t B=some (b,l)):B.exp=sB g t l/\(B.ok-> ∀x∈l,Bnd t b x):=by
 unfold blOf at h;split at h
 .split at h
  .rename_i hb
   have:=Ty.beq_eq hb;cases this
   cases g with
   |true=>cases h
   |false=>
    simp only[cond_false,q61,q62]at h;obtain⟨rfl,rfl⟩:=h;exact⟨rfl,λh=>h⟩
  .cases h
 .split at h
  .rename_i hb
   have:=Ty.beq_eq hb;cases this
   cases g with
   |false=>cases h
   |true=>
    simp only[cond_true,q61,q62]at h;obtain⟨rfl,rfl⟩:=h;exact⟨rfl,λh=>h⟩
  .cases h
 .cases h
theorem Q9(g:Bool)(t:Ty)(e:Bd)(l:List t.den):(mkB g t e l).exp=sB g t l:=by cases g<;>rfl
theorem Uh{g:Bool}{t:Ty}{e:Bd}{l:List t.den}(h: ∀x∈l,Bnd t e x):(mkB g t e l).ok:=by cases g<;>exact h
theorem UT(g:Bool)(t:Ty)(l:List t.den)(ρ:Nat->Nat):(sB g t l).map ρ=sB g t l:=by
 have h:(qI t l).map (Atom.map ρ)=qI t l:=by rw[vC];exact E2 ρ _
 cases g
 .show Blk.rigid _=Blk.rigid _;rw[h]
 .show Blk.grow _ _=Blk.grow _ _;rw[h]
def OL(C:CtrS P)(bl:Nat->Option WB)(vs:List WV):HR:=
 match vs with
 |v:: .c (.one a)::vs=>bif Bn C.f v then(match slOf C.g C.t.w a with
  |some (k,lo,n,cap,nb)=>match bl k with
   |some B=>match blOf C.g C.t B with
    |some (b,l)=>match zy C.ts vs with
     |some (bs,x)=>bif b.le C.e&&Nat.ble nb C.m&&Bds.le bs C.bs then .ok (C.pre l lo n cap x) (C.res k bs l lo n cap x) [k] [(k,some (mkB C.g C.t C.e (C.new l lo n cap x)))]else .bad
     |none=> .bad
    |none=> .bad
   |none=> .bad
  |none=> .bad)else .bad
 |_=> .bad
theorem Zk {C : CtrS P} {fx : Operand} {xs : Array Operand} {ts : Array TypeId} {vs : List WV} (hl : vs.length = xs.size + 1) :
  HOk P (.call { callee := .value fx, args := xs, argTypes := ts }) ty (fx :: xs.toList) vs bl (OL C bl vs) := by
 unfold OL;split
 .rename_i v a vs
  cases hf : Bn C.f v with
  | false => exact trivial
  | true =>
   simp only [cond_true];split
   .rename_i k lo n cap nb hsl
    split
    .rename_i B hbl
     split
     .rename_i b l hB
      split
      .rename_i bs x hx
       cases hb : b.le C.e && Nat.ble nb C.m && Bds.le bs C.bs with
       | false => exact trivial
       | true =>
        simp only [q4L] at hb;intro hv hbk hvc kin hk hkb;rw [zS hk hkb hbl];obtain ⟨h1, h2, h3⟩ := A4 hx (λw hw => hv w (q5e _ (q5e _ hw)));obtain ⟨a1, a2⟩ := UZ hsl;obtain ⟨b1, b2⟩ := KH hB;have hao : a.ok := (hv (.c (.one a)) (q5e _ q5f)).1;obtain ⟨n1, n2⟩ := a2 hao;have hm := q5C n2 (q5y hb.1.2);have hl' : ∀ u ∈ l, Bnd C.t C.e u := λu hu => Bnd.mono hb.1.1 (b2 (hbk k _ hbl) u hu)
        obtain ⟨q1, q2⟩ := C.okr k bs l lo n cap x h2 hl' n1 hm hvc;refine ⟨?_, q1, zT (Uh q2)⟩;have hsig := C.sig l lo n cap x hl' (Bnds.mono hb.2 h2) n1 hm hvc
        have hren := QH (k := k) (x' := sB C.g C.t l) (y' := sB C.g C.t (C.new l lo n cap x)) (R' := (C.res k C.bs l lo n cap x).exp) (ps' := .c (.one (sA C.g C.t.w k lo n cap)) :: argsE C.ts x) hsig
         (by
          simp only [q5b, Fe]
          congr 1
          unfold sA
          cases C.g <;> simp [AV.map, Cmp.map, Atom.map, Sx.ren]) (UT _ _ _ _) (C.hren k l lo n cap x) (UT _ _ _ _)
        have := EX (show VImps (.c (.one (sA C.g C.t.w k lo n cap)) :: vs.map WV.exp) (.c (.one (sA C.g C.t.w k lo n cap)) :: argsE C.ts x) from ⟨QO, h1⟩) hren;rw [C.hexp k bs l lo n cap x]
        have hv1 : (WV.c (.one a)).exp = .c (.one (sA C.g C.t.w k lo n cap)) := by
         show AV.c (.one (a.exp.headD _)) = _;rw [a1]; rfl
        show OpOk P _ _ ((fx, v.exp) :: List.zip xs.toList ((WV.c (.one a)).exp :: vs.map WV.exp)) [(k, B.exp)] _ [(k, some (mkB C.g C.t C.e (C.new l lo n cap x)).exp)];rw [CZ hf, hv1, b1, Q9];exact GJ (by simp at hl; simp [<- hl]) this
      .exact trivial
     .exact trivial
    .exact trivial
   .exact trivial
 .exact trivial
def Mj(a:WA)(l:List Nat)(vz:List Prop):Option (List Prop):=
 match asL a with
 |some ⟨.nat .u32,_,xs⟩=>some [xs=l]
 |_=>bif vX a then some vz else none
theorem Js{a:WA}{l:List Nat}{vz vc:List Prop}(h:Mj a l vz=some vc)(hz:(∀p∈vz,p)->l=[])(hvc: ∀p∈vc,p):AImps a.exp (ql (.sl (.nat .u32)) l):=by
 unfold Mj at h;split at h
 .rename_i b xs hx
  simp only[q61]at h;subst h
  have:xs=l:=hvc _ q5f;subst this;rw[(Ec hx).1];exact jA
 .cases hn:vX a with
  |false=>rw[hn]at h;cases h
  |true=>
   rw[hn]at h;simp at h;subst h
   have:=zZ hn;subst this
   rw[hz hvc];exact DO _
def Mb(a:WA)(n:Nat):Option (List Prop):=
 match a with
 | .dt .mag _ (m:Nat)=>some [m=n]
 |a=>Mj a (limbs n) [n=0]
theorem IY{a:WA}{n:Nat}{vc:List Prop}(h:Mb a n=some vc)(hvc: ∀p∈vc,p):AImps a.exp [.abs (natP n)]:=by
 unfold Mb at h;split at h
 .simp only[q61]at h;subst h
  have:_=n:=hvc _ q5f;subst this;exact jA
 .have:=Js h (λhz=>by have:n=0:=hz _ q5f;subst this;rfl) hvc
  rw[show[Atom.abs (natP n)]=ql .mag n from rfl,Bz];exact this
def Ss(l:List WA)(x:Rat):Option (List Prop):=
 match l with
 |[a0,a1,a2]=>match toB a0,Mb a1 x.num.natAbs,Mj a2 (denL x.den) [x.den=1]with
  |some p,some v1,some v2=>some ((p=decide (x.num<0))::(v1++v2))
  |_,_,_=>none
 |_=>none
theorem St{l:List WA}{x:Rat}{vc:List Prop}(h:Ss l x=some vc)(hvc: ∀p∈vc,p):AImps (WAs.exp l) (ql .rat x):=by
 unfold Ss at h;split at h
 .rename_i a0 a1 a2
  split at h
  .rename_i p v1 v2 h0 h1 h2
   simp only[q61]at h;subst h
   have hp:p=decide (x.num<0):=hvc _ q5f;have hr: ∀q∈v1++v2,q:=λq hq=>hvc q (q5e _ hq)
   obtain⟨r1,r2⟩:=AllP.app hr;have e0:=I1 h0;have i1:=IY h1 r1;have i2:=Js h2 (λhz=>by have:x.den=1:=hz _ q5f;simp[denL,this]) r2;rw[WAs.exp_cons,WAs.exp_cons,WAs.exp_cons,e0,hp]
   have:ql .rat x=[.val (.bool (decide (x.num<0)))]++([.abs (natP x.num.natAbs)]++(ql (.sl (.nat .u32)) (denL x.den)++[])):=by
    rw[<-KJ];rfl
   rw[this];exact wq jA (wq i1 (wq i2 trivial))
  .cases h
 .cases h
def R4(x:Rat)(b:Nat):HR->HR
 | .ok vc (.c (.agg l)) ks Lw=>match Ss l x with
  |some v=> .ok (vc++(v++[qR x.num.natAbs b,le2 x.den b])) (.c (.agg [.dt .rat (.n b) x])) ks Lw
  |none=> .bad
 |_=> .bad
theorem LImp.refl: ∀{l:List (Nat×Option Blk)},LImp l l
 |[]=>trivial
 |(_,none)::_=>⟨rfl,LImp.refl⟩
 |(_,some _)::_=>⟨rfl,λ_ _ _ h=>h,LImp.refl⟩
theorem Zg{op:Op}{xs:List Operand}{vs:List WV}{x:Rat}{b:Nat}{r:HR}(h:HOk P op ty xs vs bl r):HOk P op ty xs vs bl (R4 x b r):=by
 unfold R4;split
 .rename_i vc l ks Lw
  split
  .rename_i v hv0
   intro hv hb hvc kin hk hkb;obtain⟨r1,r2⟩:=AllP.app hvc;obtain⟨r3,r4⟩:=AllP.app r2;obtain⟨g1,g2,g3⟩:=h hv hb r1 kin hk hkb;refine⟨g1.weak (IK (MN ?_)) LImp.refl,v8 ⟨r4 (qR _ _) (by simp),r4 (le2 _ _) (by simp)⟩,g3⟩;rw[zW];exact St hv0 r3
  .exact trivial
 .exact trivial
def R3(n b:Nat):HR->HR
 | .ok vc (.c (.one a)) ks Lw=>match Mb a n with
  |some v=> .ok (vc++(v++[qR n b])) (.c (.one (.dt .mag (.n b) n))) ks Lw
  |none=> .bad
 |_=> .bad
theorem Zf{op:Op}{xs:List Operand}{vs:List WV}{n b:Nat}{r:HR}(h:HOk P op ty xs vs bl r):HOk P op ty xs vs bl (R3 n b r):=by
 unfold R3;split
 .rename_i vc a ks Lw
  split
  .rename_i v hv0
   intro hv hb hvc kin hk hkb;obtain⟨r1,r2⟩:=AllP.app hvc;obtain⟨r3,r4⟩:=AllP.app r2;obtain⟨g1,g2,g3⟩:=h hv hb r1 kin hk hkb;refine⟨g1.weak (IK (MO ?_)) LImp.refl,⟨r4 (qR _ _) (by simp),rfl⟩,g3⟩;have:=IY hv0 r3;rw[WA.exp_one g2.2]at this;exact this.1
  .exact trivial
 .exact trivial
structure Ext (P:Program) where
 g:Op->Option Tmp->(Nat->Option WB)->List WV->HR
 h: ∀{op:Op}{dst:Option Tmp}{ty:TypeId}{bl:Nat->Option WB}{vs:List WV},op.operands.toList.length=vs.length->HOk P op ty op.operands.toList vs bl (g op dst bl vs)
inductive Hint (P:Program) where
 |no
 |i (h:IH)
 |ix (j:Nat)
 |mk (h:MH)
 /--the same,and the number of the new block -/
 |to (h:MH) (K:Nat)
 |c (C:Ctr P)
 |o (C:CtrO P)
 |b (C:CtrB P)
 |s (C:CtrS P)
 |rat (x:Rat) (b:Nat)
 |mag (n b:Nat)
 |ext (X:Ext P)
 /--a fact of the caller's on this operation -/
 |any (vs:List WV) (R:WV) (ok:R.ok) (op:Op) (h: ∀ty,OpOk P op ty (List.zip op.operands.toList (vs.map WV.exp)) [] R.exp [])
def Hint.ih{P:Program}:Hint P->IH
 | .i h=>h
 |_=> .no
def Hint.ixo{P:Program}:Hint P->Option Nat
 | .ix j=>some j
 |_=>none
def Hint.mh{P:Program}:Hint P->MH
 | .mk h=>h
 | .to h _=>h
 |_=> .no
def Hint.dto{P:Program}(h:Hint P)(d:Nat):Nat:=match h with| .to _ K=>K|_=>d
def dOf:Option Tmp->Nat
 |some d=>d
 |none=>0
def q42{P:Program}(G:List (Nat×Hint P))(h:Hint P)(vs:List WV):Hint P:=
 match h with
 | .no=>match vs with
  | .c (.one (.vl (.func (.func f) _ _)))::_=>match look G f with
   |some h=>h
   |none=> .no
  | .c (.one (.dt (.fn f) _ _))::_=>match look G f with
   |some h=>h
   |none=> .no
  |_=> .no
 |h=>h
def wop(G:List (Nat×Hint P))(bl:Nat->Option WB)(dst:Option Tmp)(op:Op)(h:Hint P)(vs:List WV):HR:=
 match op with
 | .move _=>match vs with|[v]=> .ok [] v [] []|_=> .bad
 | .assign _=>match vs with|[v]=> .ok [] v [] []|_=> .bad
 | .pick .. =>match vs with|[c,x,y]=>SP c x y|_=> .bad
 | .alloc t=>match vs,dst with|[],some d=>OG P t d|_,_=> .bad
 | .box _ _=>match vs,dst with|[v],some d=>wBox d v|_,_=> .bad
 | .build t parts=>OH P t parts vs
 | .buildSlice t len parts=>match dst with|some d=>Dy P t len parts h.mh d vs|none=> .bad
 | .load t _=>match vs with|[v]=>SN P bl t v|_=> .bad
 | .store t _ _=>match vs with|[p,v]=>OP P bl t p v|_=> .bad
 | .nilCheck _=>match vs with|[v]=>wNil v|_=> .bad
 | .fieldAddr s _ f=>match vs with|[v]=>F0 P s f v|_=> .bad
 | .field s _ f=>match vs with|[v]=>VO P s f v|_=> .bad
 | .indexAddr t _ _=>match vs with|[p,v]=>F1 P t h.ixo p v|_=> .bad
 | .index t _ _=>match vs with|[p,v]=>VP P t p v|_=> .bad
 | .extract _ i=>match vs with|[v]=>I6 i v|_=> .bad
 | .binOp b t _ _ _=>match vs with|[x,y]=>wBin P b t h.ih x y|_=> .bad
 | .unOp o _ _=>match vs with|[v]=>wUn o v|_=> .bad
 | .convert s d _=>match vs with|[v]=>SM P s d h.ih v|_=> .bad
 | .slice t _ lo hi mx=>ON P t bl lo hi mx vs
 | .makeSlice t _ _=>match vs,dst with|[p,v],some d=>OM P t h.mh d p v|_,_=> .bad
 | .makeFunc fn a b=>bif Nat.beq a.size 0&&Nat.beq b.size 0 then(match fn with| .func f=> .ok [] (.c (.one (.vl (.func (.func f) #[] #[])))) [] []|_=> .bad)else .bad
 | .call {callee:= .builtin .len,args:=aas,argTypes:=ts}=>match aas.toList,vs,ts.toList with|[_],[v],[t]=>wLen P t v|_,_,_=> .bad
 | .call {callee:= .builtin .clear,args:=aas,argTypes:=ts}=>match aas.toList,vs,ts.toList with|[_],[v],[t]=>VN P t bl v|_,_,_=> .bad
 | .call {callee:= .builtin .max,args:=aas,argTypes:=ts}=>match aas.toList,vs with|[_,_],[p,v]=>wMax p v|_,_=> .bad
 | .call {callee:= .builtin .min,args:=aas,argTypes:=ts}=>match aas.toList,vs with|[_,_],[p,v]=>wMin p v|_,_=> .bad
 | .call {callee:= .builtin .append,args:=aas,argTypes:=ts}=>match aas.toList,vs,ts.toList,dst with|[_,_],[p,v],[t,u],some d=>Kv P t u h.mh bl (h.dto d) p v|_,_,_,_=> .bad
 | .call {callee:= .value _,args:=aas,argTypes:=_}=>bif Nat.beq vs.length (aas.size+1)then(match q42 G h vs with
   | .c C=>SL C vs
   | .o C=>OJ C (dOf dst) vs
   | .b C=>OI C bl vs
   | .s C=>OL C bl vs
   |_=> .bad)else .bad
 |_=> .bad
theorem Rz{f:FuncId}:HOk P (.makeFunc (.func f) #[] #[]) ty [] [] bl (.ok [] (.c (.one (.vl (.func (.func f) #[] #[])))) [] []):=by
 intro _ _ _ kin hk _;rw[qg hk];refine⟨qk λa w H β hins _ _=>⟨.func (.func f) #[] #[],⟨rfl,rfl⟩,λ_ _ _ _=>?_⟩,⟨rfl,rfl⟩,qo⟩;simp[execOp,Instr.makeFunc]
theorem Ci{α:Type}{a:Array α}{x y:α}(h:a.toList=[x,y]):a= #[x,y]:=by
 apply Array.ext';rw[h]
theorem GW{α:Type}{a:Array α}{x:α}(h:a.toList=[x]):a= #[x]:=by
 apply Array.ext';rw[h]
theorem OQ{G:List (Nat×Hint P)}{dst:Option Tmp}{op:Op}{h:Hint P}{vs:List WV}(hl:op.operands.toList.length=vs.length):HOk P op ty op.operands.toList vs bl (wop G bl dst op h vs):=by
 unfold wop;split
 .split
  .exact Nh
  .exact trivial
 .split
  .exact Hz
  .exact trivial
 .split
  .exact Ni
  .exact trivial
 .split
  .exact JO
  .exact trivial
 .split
  .exact Rx
  .exact trivial
 .rename_i t parts
  have:=JP (P:=P) (bl:=bl) (ty:=ty) (t:=t) (parts:=parts) (vs:=vs);simpa[Op.operands]using this
 .rename_i t len parts
  split
  .rename_i d
   have:=Cs (P:=P) (bl:=bl) (ty:=ty) (ts:=t) (len:=len) (parts:=parts) (h:=h.mh) (d:=d) (vs:=vs);simpa[Op.operands]using this
  .exact trivial
 .split
  .exact Ng
  .exact trivial
 .split
  .exact JT
  .exact trivial
 .split
  .exact RD
  .exact trivial
 .split
  .exact Dq
  .exact trivial
 .split
  .exact JR
  .exact trivial
 .split
  .exact Dr
  .exact trivial
 .split
  .exact JS
  .exact trivial
 .split
  .exact Fu
  .exact trivial
 .split
  .exact Rw
  .exact trivial
 .split
  .exact h_un
  .exact trivial
 .split
  .exact Nd
  .exact trivial
 .exact Gv
 .split
  .exact Zm
  .exact trivial
 .rename_i fn a b
  cases hb:Nat.beq a.size 0&&Nat.beq b.size 0 with
  |false=>exact trivial
  |true=>
   simp only[q4L]at hb;have e1:=q4K (q5w hb.1);have e2:=q4K (q5w hb.2);subst e1 e2;simp only[cond_true];split
   .have:vs=[]:=by
     have:vs.length=0:=by rw[<-hl];rfl
     exact q4V this
    subst this;exact Rz
   .exact trivial
 .rename_i aas ts
  split
  .rename_i x v t h1 h2
   have:=GW h1;subst this
   have:=GW h2;subst this
   exact Ry
  .exact trivial
 .rename_i aas ts
  split
  .rename_i x v t h1 h2
   have:=GW h1;subst this
   have:=GW h2;subst this
   exact JQ
  .exact trivial
 .rename_i aas ts
  split
  .rename_i x y p v h1
   have:=Ci h1;subst this
   exact RB
  .exact trivial
 .rename_i aas ts
  split
  .rename_i x y p v h1
   have:=Ci h1;subst this
   exact RC
  .exact trivial
 .rename_i aas ts
  split
  .rename_i x y p v t u d h1 h2
   have:=Ci h1;subst this
   have:=Ci h2;subst this
   exact Hy
  .exact trivial
 .rename_i fx aas ts
  cases hb:Nat.beq vs.length (aas.size+1)with
  |false=>exact trivial
  |true=>
   have hb:=q5w hb;simp only[cond_true];rw[W9];split
   .exact q1s hb
   .exact Zj hb
   .exact Zi hb
   .exact Zk hb
   .exact trivial
 .exact trivial
def wopH(G:List (Nat×Hint P))(bl:Nat->Option WB)(dst:Option Tmp)(op:Op)(h:Hint P)(vs:List WV):HR:=
 match h with
 | .rat x b=>R4 x b (wop G bl dst op .no vs)
 | .mag n b=>R3 n b (wop G bl dst op .no vs)
 | .any vs0 R _ op0 _=> .ok [vs=vs0,op=op0] R [] []
 | .ext X=>X.g op dst bl vs
 |h=>wop G bl dst op h vs
theorem q0H{G:List (Nat×Hint P)}{dst:Option Tmp}{op:Op}{h:Hint P}{vs:List WV}(hl:op.operands.toList.length=vs.length):HOk P op ty op.operands.toList vs bl (wopH G bl dst op h vs):=by
 unfold wopH;split
 .exact Zg (OQ hl)
 .exact Zf (OQ hl)
 .rename_i vs0 R hR op0 hop
  intro _ _ hvc kin hk _;rw[qg hk];have e1:vs=vs0:=hvc _ q5f;have e2:op=op0:=hvc _ (q5e _ q5f);subst e1 e2;exact⟨hop ty,hR,qo⟩
 .rename_i X;exact X.h hl
 .exact OQ hl
end
end
section
structure WSt where
 rm:List (Nat×WV)
 m:List (Nat×WV)
 rL:List (Nat×WB)
 L:List (Nat×WB)
def qO(st:WSt)(t:Nat):Option WV:=
 match look st.m t with
 |some v=>some v
 |none=>look st.rm t
def qy(st:WSt)(k:Nat):Option WB:=
 match look st.L k with
 |some v=>some v
 |none=>look st.rL k
def WSt.toA(st:WSt):ASt:=⟨(st.m++st.rm).map λp=>(p.1,p.2.exp),(st.L++st.rL).map λp=>(p.1,p.2.exp)⟩
theorem AC{α β:Type}(f:α->β): ∀(l:List (Nat×α))(t:Nat),look (l.map λp=>(p.1,f p.2)) t=(look l t).map f
 |[],_=>rfl
 |(k,v)::r,t=>by
  simp only[q5b,look]
  cases Nat.beq k t with
  |true=>rfl
  |false=>exact AC f r t
theorem vi(st:WSt)(t:Nat):look st.toA.m t=(qO st t).map WV.exp:=by
 unfold WSt.toA qO;rw[AC,ve];cases look st.m t<;>rfl
theorem qW(st:WSt)(k:Nat):look st.toA.L k=(qy st k).map WB.exp:=by
 unfold WSt.toA qy;rw[AC,ve];cases look st.L k<;>rfl
structure WSt.Ok (st:WSt):Prop where
 m: ∀t v,qO st t=some v->v.ok
 l: ∀k b,qy st k=some b->b.ok
 dm: ∀t,look st.rm t≠none->look st.m t=none
 dl: ∀k,look st.rL k≠none->look st.L k=none
def CV(st:WSt):Operand->Option WV
 | .tmp t=>qO st t
 | .const v=>jP v
 | .func f=>some (.c (.one (.vl (.func (.func f) #[] #[]))))
 | .global _=>none
def AJ(st:WSt):List Operand->Option (List WV)
 |[]=>some []
 |x::r=>match CV st x with
  |some v=>match AJ st r with
   |some vs=>some (v::vs)
   |none=>none
  |none=>none
theorem Iz{st:WSt}(hk:st.Ok){x:Operand}{v:WV}(h:CV st x=some v):evOp st.toA x=some v.exp/\v.ok:=by
 cases x with
 |tmp t=>exact⟨by simp only[evOp,vi];simp only[CV]at h;rw[h];rfl,hk.m t v h⟩
 |const c=>obtain⟨h1,h2⟩:=ws h;exact⟨h1,h2⟩
 |func f=>simp only[CV,q61]at h;subst h;exact⟨rfl,rfl,rfl⟩
 |global g=>simp[CV]at h
theorem Bl{st:WSt}(hk:st.Ok): ∀{xs:List Operand}{vs:List WV},AJ st xs=some vs->Eo st.toA xs=some (vs.map WV.exp)/\(∀v∈vs,v.ok)/\xs.length=vs.length
 |[],vs,h=>by simp[AJ]at h;subst h;exact⟨rfl,λv hv=>by simp at hv,rfl⟩
 |x::r,vs,h=>by
  simp only[AJ]at h
  cases hx:CV st x with
  |none=>rw[hx]at h;cases h
  |some v=>
   rw[hx]at h;simp only at h
   cases hr:AJ st r with
   |none=>rw[hr]at h;cases h
   |some l=>
    rw[hr]at h;simp at h;subst h
    obtain⟨h1,h2⟩:=Iz hk hx;obtain⟨h3,h4,h5⟩:=Bl hk hr;refine⟨by simp only[Eo,h1,h3];rfl,λw hw=>?_,by simp[h5]⟩;rcases q5d.1 hw with rfl|hw
    .exact h2
    .exact h4 w hw
def kinW(st:WSt):List Nat->Option (List (Nat×WB))
 |[]=>some []
 |k::r=>match qy st k with
  |some b=>match kinW st r with
   |some l=>some ((k,b)::l)
   |none=>none
  |none=>none
theorem Fy{st:WSt}: ∀{ks:List Nat}{kin:List (Nat×WB)},kinW st ks=some kin->kin.map (·.1)=ks/\(∀p∈kin,qy st p.1=some p.2)/\RJ st.toA ks=some (kinE kin)
 |[],kin,h=>by simp[kinW]at h;subst h;exact⟨rfl,λp hp=>by simp at hp,rfl⟩
 |k::r,kin,h=>by
  simp only[kinW]at h
  cases hl:qy st k with
  |none=>rw[hl]at h;cases h
  |some b=>
   rw[hl]at h;simp only at h
   cases hr:kinW st r with
   |none=>rw[hr]at h;cases h
   |some l=>
    rw[hr]at h;simp at h;subst h
    obtain⟨h1,h2,h3⟩:=Fy hr;refine⟨by simp[h1],λp hp=>?_,by simp only[RJ,qW,hl,h3,q60];rfl⟩;rcases q5d.1 hp with rfl|hp
    .exact hl
    .exact h2 p hp
def putG:List (Nat×Option WB)->List (Nat×WB)->List (Nat×WB)
 |[],L=>L
 |(k,none)::r,L=>del (putG r L) k
 |(k,some b)::r,L=>(k,b)::del (putG r L) k
theorem D7(L:List (Nat×WB))(k:Nat): ∀Lw,look (putG Lw L) k=(match look Lw k with|some x=>x|none=>look L k)
 |[]=>rfl
 |(q,none)::r=>by
  simp only[putG,EG,look];by_cases e:q=k
  .subst e;simp
  .rw[if_neg (λh=>e h.symm),D7 L k r];simp[js e]
 |(q,some b)::r=>by
  simp only[putG,look,EG];by_cases e:q=k
  .subst e;simp
  .rw[if_neg (λh=>e h.symm),D7 L k r];simp[js e]
def WSt.put(st:WSt)(dst:Option Tmp)(R:WV)(Lw:List (Nat×Option WB)):WSt:=
 ⟨st.rm,match dst with|some d=>(d,R)::del st.m d|none=>st.m,st.rL,putG Lw st.L⟩
theorem HF(Lw:List (Nat×Option WB))(k:Nat):look (LwE Lw) k=(look Lw k).map λx=>x.map WB.exp:=AC _ _ _
theorem L8(st:WSt)(dst:Option Tmp)(R:WV)(Lw:List (Nat×Option WB))(t:Nat):qO (st.put dst R Lw) t=if dst=some t then some R else qO st t:=by
 unfold qO WSt.put
 cases dst with
 |none=>simp
 |some d=>
  by_cases e:d=t
  .subst e;simp[look]
  .have e2: ¬(some d:Option Tmp)=some t:=λh=>e (Option.some.inj h)
   rw[if_neg e2];simp only[look,js e,cond_false,EG];rw[if_neg (λh=>e h.symm)]
theorem L7(st:WSt)(dst:Option Tmp)(R:WV)(Lw:List (Nat×Option WB))(hL: ∀k,look Lw k≠none->look st.rL k=none)(k:Nat):
  qy (st.put dst R Lw) k=(match look Lw k with|some x=>x|none=>qy st k):=by
 unfold qy WSt.put;simp only[D7]
 cases hl:look Lw k with
 |none=>rfl
 |some x=>
  cases x with
  |none=>simp only;exact hL k (by rw[hl];simp)
  |some b=>rfl
theorem Ly(st:WSt)(dst:Option Tmp)(R:WV)(Lw:List (Nat×Option WB))(hL: ∀k,look Lw k≠none->look st.rL k=none):
  qt (st.put dst R Lw).toA=(qt st.toA).upd (Wof dst R.exp (LwE Lw)):=by
 funext ℓ;rcases q5J ℓ with h|h
 .obtain⟨t,rfl⟩: ∃t,ℓ=2*t:=⟨ℓ/2,by omega⟩
  rw[qL,vi,L8];simp only[FS.upd,jU];by_cases e:dst=some t
  .rw[if_pos e,if_pos e];rfl
  .rw[if_neg e,if_neg e,qL,vi]
 .obtain⟨k,rfl⟩: ∃k,ℓ=2*k+1:=⟨ℓ/2,by omega⟩
  rw[qj,qW,L7 st dst R Lw hL];simp only[FS.upd,vd,HF]
  cases hl:look Lw k with
  |none=>simp only[q5Z];rw[qj,qW]
  |some x=>cases x<;>rfl
def Fr(st:WSt)(W:Wr)(k:Nat):Bool:=
 Nat.blt k 100000&&(st.m++st.rm).all (λp=>(look W (2*p.1)).isSome||!(p.2.ids.any (Nat.beq k)))&&(st.L++st.rL).all (λp=>(look W (2*p.1+1)).isSome||!(p.2.ids.any (Nat.beq k)))
theorem Pm{k:Nat}{l:List Nat}(h:k∈l):l.any (Nat.beq k)=true:=List.any_eq_true.2 ⟨k,h,Nat.beq_refl k⟩
theorem Hb{st:WSt}{W:Wr}{k:Nat}(h:Fr st W k=true):k<100000/\ ∀ℓ x,qt st.toA ℓ=some x->look W ℓ=none->x.men k=false:=by
 unfold Fr at h;simp only[q4L,List.all_eq_true]at h;obtain⟨⟨h0,h1⟩,h2⟩:=h;refine⟨by simpa using h0,λℓ x hx hl=>?_⟩;rcases q5J ℓ with e|e
 .obtain⟨t,rfl⟩: ∃t,ℓ=2*t:=⟨ℓ/2,by omega⟩
  rw[qL]at hx;have hx2:look ((st.m++st.rm).map λp=>(p.1,p.2.exp)) t=look st.toA.m t:=rfl;rw[<-hx2,AC]at hx
  cases hv:look (st.m++st.rm) t with
  |none=>rw[hv]at hx;cases hx
  |some v=>
   rw[hv]at hx;simp at hx;subst hx
   have:=h1 _ (j6 hv);simp only[hl,Option.isSome_none,Bool.false_or,q4N]at this
   cases hm:(XV.av v.exp).men k with
   |false=>rfl
   |true=>rw[Pm (WV.men_ids hm)]at this;cases this
 .obtain⟨t,rfl⟩: ∃t,ℓ=2*t+1:=⟨ℓ/2,by omega⟩
  rw[qj]at hx;have hx2:look ((st.L++st.rL).map λp=>(p.1,p.2.exp)) t=look st.toA.L t:=rfl;rw[<-hx2,AC]at hx
  cases hv:look (st.L++st.rL) t with
  |none=>rw[hv]at hx;cases hx
  |some v=>
   rw[hv]at hx;simp at hx;subst hx
   have:=h2 _ (j6 hv);simp only[hl,Option.isSome_none,Bool.false_or,q4N]at this
   cases hm:(XV.bl v.exp).men k with
   |false=>rfl
   |true=>rw[Pm (WB.men_ids hm)]at this;cases this
def vf(k:Nat)(l:List Nat):Bool:=l.any (Nat.beq k)
theorem wK{k:Nat}{l:List Nat}:vf k l=true↔k∈l:=by
 unfold vf;rw[List.any_eq_true];exact⟨λ⟨x,hx,h⟩=>by rw[q5w h];exact hx,λh=>⟨k,h,Nat.beq_refl k⟩⟩
def nwOf(ks:List Nat)(Lw:List (Nat×Option WB)):List Nat:=((Lw.filter (·.2.isSome)).map (·.1)).filter λk=>!vf k ks
theorem D6{α:Type}{l:List (Nat×α)}{k:Nat}:(look l k).isNone=!vf k (l.map (·.1)):=by
 cases hm:vf k (l.map (·.1))with
 |true=>
  have:=wK.1 hm;obtain⟨p,hp,e⟩:=List.mem_map.1 this
  cases hl:look l k with
  |none=>exact absurd e ((jR.1 hl) p hp)
  |some v=>rfl
 |false=>
  have:look l k=none:=jR.2 λp hp e=>by
   have:vf k (l.map (·.1))=true:=wK.2 (List.mem_map.2 ⟨p,hp,e⟩);rw[hm]at this;cases this
  rw[this];rfl
theorem q4k{ks:List Nat}{kin:List (Nat×WB)}{Lw:List (Nat×Option WB)}(h:kin.map (·.1)=ks):qu (kinE kin) (LwE Lw)=nwOf ks Lw:=by
 unfold qu nwOf LwE kinE
 have e1: ∀l:List (Nat×Option WB),((l.map λp=>(p.1,p.2.map WB.exp)).filter (·.2.isSome)).map (·.1)=(l.filter (·.2.isSome)).map (·.1):=by
  intro l
  induction l with
  |nil=>rfl
  |cons a l ih=>
   obtain⟨k,x⟩:=a
   cases x with
   |none=>simpa using ih
   |some b=>simpa using ih
 rw[e1]
 congr 1
 funext k;rw[D6,List.map_map];rw[show((λx:Nat×Blk=>x.1)∘λp:Nat×WB=>(p.1,p.2.exp))=(·.1)from rfl,h]
def q4h(Lw:List (Nat×Option WB)):List Nat:=Lw.flatMap λp=>match p.2 with|some b=>b.ids|none=>[]
def G9(n:Nat)(st:WSt)(dst:Option Tmp)(R:WV)(ks:List Nat)(Lw:List (Nat×Option WB))(W:Wr):Bool:=
 Gq n dst&&(match dst with|some d=>(look st.rm d).isNone|none=>true)&&Lw.all (λp=>(look st.rL p.1).isNone)&&
  Lw.all (λp=>match p.2 with|none=>vf p.1 ks&&(match look Lw p.1 with|some none=>true|_=>false)|some _=>true)&&(nwOf ks Lw).all (Fr st W)
inductive SR where
 |bad
 |one (vc:List Prop) (p:PI) (st:WSt)
 |two (q:Prop) (p1:PI) (s1:WSt) (p2:PI) (s2:WSt)
def IG(all:List Oper)(st:WSt)(o:Oper):Option Bool:=
 match o.guard with
 |none=>some true
 |some (j,want)=>match(all[j]?).bind (·.dst)with
  |none=>none
  |some d=>match qO st d with
   |some (.c (.one (.vl (.bool b))))=>some (beqB b want)
   |some (.tup [])=>some false
   |_=>none
def I4(all:List Oper)(i:Nat):Bool:=all.any λo=>match o.guard with|some (j,_)=>Nat.beq j i|none=>false
def Ig:WV->Option Prop
 | .c (.one (.pp q _))=>some q
 | .c (.one (.dt .bool _ b))=>some (b=true)
 |_=>none
def vB(b:Bool):WV:= .c (.one (.vl (.bool b)))
def piOf(all:List Oper)(o:Oper)(R:WV)(ks:List Nat)(Lw:List (Nat×Option WB)):PI:=
 ⟨gslots all o++jh o.op.operands.toList++ks.map (2* · +1),Wof o.dst R.exp (LwE Lw),nwOf ks Lw,R.ids++q4h Lw,none⟩
section
variable {P:Program}
def fin1(n:Nat)(all:List Oper)(st:WSt)(o:Oper)(R:WV)(ks:List Nat)(Lw:List (Nat×Option WB)):Option (PI×WSt):=
 let p:=piOf all o R ks Lw
 bif G9 n st o.dst R ks Lw p.W then some (p,st.put o.dst R Lw)else none
def wstep(G:List (Nat×Hint P))(n:Nat)(all:List Oper)(i:Nat)(o:Oper)(h:Hint P)(st:WSt):SR:=
 match IG all st o with
 |none=> .bad
 |some false=>bif Gq n o.dst&&(match o.dst with|some d=>(look st.rm d).isNone|none=>true)then .one [] ⟨gslots all o,Wof o.dst wO.exp [],[],[],none⟩ (st.put o.dst wO [])else .bad
 |some true=>match AJ st o.op.operands.toList with
  |none=> .bad
  |some vs=>match wopH G (qy st) o.dst o.op h vs with
   | .bad=> .bad
   | .ok vc R ks Lw=>match kinW st ks with
    |none=> .bad
    |some _=>match(bif I4 all i&&Nat.beq ks.length 0&&Nat.beq Lw.length 0&&Nat.beq vc.length 0 then Ig R else none)with
     |some q=>match fin1 n all st o (vB true) [] [],fin1 n all st o (vB false) [] []with
      |some (p1,s1),some (p2,s2)=> .two q p1 s1 p2 s2
      |_,_=> .bad
     |none=>match fin1 n all st o R ks Lw with
      |some (p,s)=> .one vc p s
      |none=> .bad
   | .spl q R1 R2=>match fin1 n all st o R1 [] [],fin1 n all st o R2 [] []with
    |some (p1,s1),some (p2,s2)=> .two q p1 s1 p2 s2
    |_,_=> .bad
   | .okA vc R q b'=>match qy st q with
    |none=> .bad
    |some _=>match fin1 n all st o R [q] []with
     |some (p,s)=> .one vc ⟨p.rd,p.W,p.nw,p.tch,some (2*q+1,.bl b'.exp)⟩ s
     |none=> .bad
structure StepOk (P:Program) (E:Env) (ops:Array Oper) (i:Nat) (st:WSt) (p:PI) (st':WSt):Prop where
 good:Good P E ops i p (qt st.toA)
 goodA: ∀ℓ x,p.alt=some (ℓ,x)->Good P E ops i p (setA (qt st.toA) ℓ x)
 fs:qt st'.toA=(qt st.toA).upd p.W
 tch: ∀ℓ x,look p.W ℓ=some (some x)-> ∀k,x.men k=true->k∈p.tch
 nw: ∀k∈p.nw,∀ℓ x,qt st.toA ℓ=some x->look p.W ℓ=none->x.men k=false
 ok:st'.Ok
 rm:st'.rm=st.rm
 rL:st'.rL=st.rL
theorem UD{st:WSt}(hk:st.Ok){dst:Option Tmp}{R:WV}{Lw:List (Nat×Option WB)}(hR:R.ok)(hLw:LwOk Lw)(hd: ∀d,dst=some d->look st.rm d=none)(hL: ∀k,look Lw k≠none->look st.rL k=none):(st.put dst R Lw).Ok:=by
 refine⟨λt v h=>?_,λk b h=>?_,λt ht=>?_,λk hk'=>?_⟩
 .rw[L8]at h
  by_cases e:dst=some t
  .rw[if_pos e]at h;cases h;exact hR
  .rw[if_neg e]at h;exact hk.m t v h
 .rw[L7 st dst R Lw hL]at h
  cases hl:look Lw k with
  |none=>rw[hl]at h;exact hk.l k b h
  |some x=>
   rw[hl]at h;simp only at h;subst h
   exact hLw k b (j6 hl)
 .have h1:=hk.dm t ht
  unfold WSt.put
  cases dst with
  |none=>exact h1
  |some d=>
   have hne:d≠t:=λe=>ht (e▸hd d rfl)
   simp only[look,js hne,cond_false,EG];rw[if_neg (λh=>hne h.symm)];exact h1
 .have h1:=hk.dl k hk'
  show look (putG Lw st.L) k=none;rw[D7]
  cases hl:look Lw k with
  |none=>exact h1
  |some x=>exact absurd (hL k (by rw[hl];simp)) hk'
theorem C5{E:Env}{n:Nat}(hn:E.n=n){all:List Oper}{ops:Array Oper}(hall:ops.toList=all){i:Nat}{o:Oper}(ho:ops[i]?=some o){st:WSt}(hk:st.Ok)(hg:C6 all st.toA o=some true)
  {vs:List WV}(hv:AJ st o.op.operands.toList=some vs){R:WV}{ks:List Nat}{Lw:List (Nat×Option WB)}{kin:List (Nat×WB)}(hkin:kinW st ks=some kin){p:PI}{st':WSt}(h:fin1 n all st o R ks Lw=some (p,st'))
  (hop:OpOk P o.op o.type (List.zip o.op.operands.toList (vs.map WV.exp)) (kinE kin) R.exp (LwE Lw))(hR:R.ok)(hLw:LwOk Lw):StepOk P E ops i st p st':=by
 unfold fin1 at h;simp only at h
 cases hc:G9 n st o.dst R ks Lw (piOf all o R ks Lw).W with
 |false=>rw[hc]at h;cases h
 |true=>
  rw[hc]at h;simp only[cond_true,q61,q62]at h;obtain⟨rfl,rfl⟩:=h
  unfold G9 at hc;simp only[q4L,List.all_eq_true]at hc;obtain⟨⟨⟨⟨c1,c2⟩,c3⟩,c4⟩,c5⟩:=hc;obtain⟨k1,k2,k3⟩:=Fy hkin;obtain⟨e1,e2,e3⟩:=Bl hk hv;have hkn:=q4k (Lw:=Lw) k1
  have hLr: ∀k,look Lw k≠none->look st.rL k=none:=by
   intro k hkk;obtain⟨x,hx⟩:=Option.ne_none_iff_exists'.1 hkk;exact Option.isNone_iff_eq_none.1 (c3 _ (j6 hx))
  have hd: ∀d,o.dst=some d->look st.rm d=none:=by
   intro d hd;rw[hd]at c2;exact Option.isNone_iff_eq_none.1 c2
  have hfr: ∀k∈nwOf ks Lw,k<100000/\ ∀ℓ x,qt st.toA ℓ=some x->look (Wof o.dst R.exp (LwE Lw)) ℓ=none->x.men k=false:=λk hkk=>Hb (c5 k hkk)
  refine⟨?_,λℓ x h=>(by cases h),Ly st o.dst R Lw hLr,?_,λk hkk=>(hfr k hkk).2,UD hk hR hLw hd hLr,rfl,rfl⟩
  .intro σ hσ hmσ a w H β K Q hrep hK
   have hw:=Ex hall hrep hg (λℓ hℓ=>hσ ℓ (by simp[piOf,hℓ]));unfold wpOp;simp only[ho,hw,if_true];refine .inl ?_
   have hkinσ: ∀p∈kinE kin,σ (2*p.1+1)=some (.bl p.2):=by
    intro p hp;obtain⟨q,hq,rfl⟩:=List.mem_map.1 hp
    rw[hσ (2*q.1+1) (by
     simp only[piOf,q5c,List.mem_map];refine .inr ⟨q.1,?_,rfl⟩
     rw[<-k1];exact List.mem_map.2 ⟨q,hq,rfl⟩),qj,qW,k2 q hq]
    rfl
   refine hop o.dst o.pos o.after o.guard a w H β K Q (CU hrep e1 λℓ hℓ=>hσ ℓ (by simp[piOf,hℓ])) (λp hp=>⟨hrep.blk _ _ (hkinσ p hp),λb c hb=>⟨(hrep.own _ _ b c (hkinσ p hp) hb).1,(hrep.own _ _ b c (hkinσ p hp) hb).2.1⟩⟩)
    (λp hp p' hp' hne b c c' hb=>hrep.inj _ _ _ _ b c c' (hkinσ p hp) (hkinσ p' hp') hne hb) hrep.hon ?_
   intro v w' H' β' hs hr hL;refine hK _ _ H' β' ?_;refine RepF.step hrep hs hr hL hkinσ ?_ (λk hkk=>?_) ?_
   .intro k hkk
    simp only[jk,LwE,List.mem_map,q5g]at hkk;obtain⟨q,⟨⟨r,hr',rfl⟩,hq⟩,rfl⟩:=hkk;have h4:=c4 r hr'
    cases hr2:r.2 with
    |some b=>rw[hr2]at hq;simp at hq
    |none=>
     rw[hr2]at h4;simp only[q4L]at h4;obtain⟨h4,h5⟩:=h4;refine⟨?_,?_⟩
     .cases hl:look (kinE kin) r.1 with
      |some x=>rfl
      |none=>
       have:=D6 (l:=kinE kin) (k:=r.1);rw[hl,kinE,List.map_map,show((λx:Nat×Blk=>x.1)∘λp:Nat×WB=>(p.1,p.2.exp))=(·.1)from rfl,k1,h4]at this;simp at this
     .have hLe:look (LwE Lw) r.1=(look Lw r.1).map λx=>x.map WB.exp:=HF _ _
      show look (LwE Lw) r.1=some none;rw[hLe];split at h5
      .rename_i h6;rw[h6];rfl
      .cases h5
   .rw[hkn]at hkk
    exact⟨E.notKs (hfr k hkk).1,λℓ x hx hl=>hmσ k hkk ℓ x hx hl⟩
   .intro d hd'
    rw[hd']at c1;rw[hn];simpa[Gq]using c1
  .intro ℓ x hx k hkk
   simp only[piOf]at hx⊢;rw[q5c];rcases q5J ℓ with e|e
   .obtain⟨t,rfl⟩: ∃t,ℓ=2*t:=⟨ℓ/2,by omega⟩
    rw[jU]at hx;by_cases e:o.dst=some t
    .rw[if_pos e]at hx;simp at hx;subst hx;exact .inl (WV.men_ids hkk)
    .rw[if_neg e]at hx;cases hx
   .obtain⟨t,rfl⟩: ∃t,ℓ=2*t+1:=⟨ℓ/2,by omega⟩
    rw[vd,HF]at hx
    cases hl:look Lw t with
    |none=>rw[hl]at hx;cases hx
    |some y=>
     rw[hl]at hx
     cases y with
     |none=>simp at hx
     |some b=>
      simp at hx;subst hx
      exact .inr (List.mem_flatMap.2 ⟨_,j6 hl,WB.men_ids hkk⟩)
theorem jS: ∀{l:List Operand}{ℓ:Nat},ℓ∈jh l->ℓ%2=0
 | .tmp t::r,ℓ,h=>by
  rcases q5d.1 (show ℓ∈2*t::jh r from h)with e|e
  .omega
  .exact jS e
 | .const _::r,ℓ,h=>jS (l:=r) h
 | .func _::r,ℓ,h=>jS (l:=r) h
 | .global _::r,ℓ,h=>jS (l:=r) h
theorem P8{all:List Oper}{o:Oper}{ℓ:Nat}(h:ℓ∈gslots all o):ℓ%2=0:=by
 unfold gslots at h;split at h
 .cases h
 .split at h
  .rw[q5j.1 h];omega
  .cases h
theorem Wx{E:Env}{n:Nat}(hn:E.n=n){all:List Oper}{ops:Array Oper}(hall:ops.toList=all){i:Nat}{o:Oper}(ho:ops[i]?=some o){st:WSt}(hk:st.Ok)(hg:C6 all st.toA o=some true)
  {vs:List WV}(hv:AJ st o.op.operands.toList=some vs){R:WV}{q:Nat}{b b':WB}(hb:qy st q=some b){p:PI}{st':WSt}(h:fin1 n all st o R [q] []=some (p,st'))
  (hop:OpOk P o.op o.type (List.zip o.op.operands.toList (vs.map WV.exp)) [(q,b.exp)] R.exp [])(hop':OpOk P o.op o.type (List.zip o.op.operands.toList (vs.map WV.exp)) [(q,b'.exp)] R.exp [])(hR:R.ok):
  StepOk P E ops i st ⟨p.rd,p.W,p.nw,p.tch,some (2*q+1,.bl b'.exp)⟩ st':=by
 have hkin:kinW st [q]=some [(q,b)]:=by simp[kinW,hb]
 have hs:=C5 (P:=P) hn hall ho hk hg hv hkin h (show OpOk P o.op o.type _ (kinE [(q,b)]) R.exp (LwE [])from hop) hR qo;refine⟨hs.good,?_,hs.fs,hs.tch,hs.nw,hs.ok,hs.rm,hs.rL⟩;intro ℓ x hx;simp only[q61,q62]at hx;obtain⟨rfl,rfl⟩:=hx;unfold fin1 at h;simp only at h
 cases hc:G9 n st o.dst R [q] [] (piOf all o R [q] []).W with
 |false=>rw[hc]at h;cases h
 |true=>
  rw[hc]at h;simp only[cond_true,q61,q62]at h;obtain⟨rfl,rfl⟩:=h
  unfold G9 at hc;simp only[q4L,List.all_eq_true]at hc;obtain⟨⟨⟨⟨c1,c2⟩,c3⟩,c4⟩,c5⟩:=hc;obtain⟨e1,e2,e3⟩:=Bl hk hv;intro σ hσ hmσ a w H β K Q hrep hK
  have hev: ∀ℓ:Nat,ℓ%2=0->ℓ∈(piOf all o R [q] []).rd->σ ℓ=qt st.toA ℓ:=by
   intro ℓ h0 hℓ;rw[hσ ℓ hℓ];have: ¬ℓ=2*q+1:=by omega
   simp[setA,this]
  have hw:=Ex hall hrep hg (λℓ hℓ=>hev ℓ (P8 hℓ) (by simp[piOf,hℓ]));unfold wpOp;simp only[ho,hw,if_true];refine .inl ?_
  have hkinσ: ∀p∈[(q,b'.exp)],σ (2*p.1+1)=some (.bl p.2):=by
   intro p hp;rw[q5j.1 hp];rw[hσ (2*q+1) (by simp[piOf])];simp[setA]
  refine hop' o.dst o.pos o.after o.guard a w H β K Q (CU hrep e1 λℓ hℓ=>hev ℓ (jS hℓ) (by simp[piOf,hℓ])) (λp hp=>⟨hrep.blk _ _ (hkinσ p hp),λb c hb=>⟨(hrep.own _ _ b c (hkinσ p hp) hb).1,(hrep.own _ _ b c (hkinσ p hp) hb).2.1⟩⟩)
   (λp hp p' hp' hne b c c' hb=>hrep.inj _ _ _ _ b c c' (hkinσ p hp) (hkinσ p' hp') hne hb) hrep.hon ?_
  intro v w' H' β' hs hr hL;refine hK _ _ H' β' ?_;refine RepF.step hrep hs hr hL hkinσ (λk hkk=>(by simp[jk,LwE]at hkk)) (λk hkk=>(by simp[qu,LwE]at hkk)) ?_;intro d hd';rw[hd']at c1;rw[hn];simpa[Gq]using c1
theorem P9{all:List Oper}{st:WSt}{o:Oper}{b:Bool}(h:IG all st o=some b):C6 all st.toA o=some b:=by
 unfold IG at h;unfold C6;split at h
 .rename_i hg;rw[hg];exact h
 .rename_i j want hg
  rw[hg];simp only
  split at h
  .cases h
  .rename_i d hd
   rw[hd];simp only[vi]
   split at h
   .rename_i c hc
    rw[hc];simp only[q61]at h;subst h
    simp only[q60,WV.exp,WC.exp,WA.exp,List.headD_cons,q61];cases c<;>cases want<;>rfl
   .rename_i hc
    rw[hc];simp only[q61]at h;subst h
    rfl
   .cases h
theorem P2{R:WV}{q:Prop}(h:Ig R=some q):(q->R.exp=(vB true).exp)/\(¬q->R.exp=(vB false).exp):=by
 unfold Ig at h;split at h
 .rename_i q' i
  simp only[q61]at h;subst h
  refine⟨λhq=>?_,λhq=>?_⟩
  .show AV.c (.one (.val (.bool (@decide q' i))))=_
   rw[show @decide q' i=true from decide_eq_true hq];rfl
  .show AV.c (.one (.val (.bool (@decide q' i))))=_
   rw[show @decide q' i=false from decide_eq_false hq];rfl
 .rename_i b' b
  simp only[q61]at h;subst h
  refine⟨λhq=>by subst hq;rfl,λhq=>?_⟩;have:b=false:=by simpa using hq
  subst this;rfl
 .cases h
theorem OT{G:List (Nat×Hint P)}{n:Nat}{all:List Oper}{ops:Array Oper}(hall:ops.toList=all){i:Nat}{o:Oper}(ho:ops[i]?=some o){h:Hint P}{st:WSt}(hk:st.Ok){E:Env}(hn:E.n=n):
  match wstep G n all i o h st with
  | .bad=>True
  | .one vc p st'=>(∀q∈vc,q)->StepOk P E ops i st p st'
  | .two q p1 s1 p2 s2=>(q->StepOk P E ops i st p1 s1)/\(¬q->StepOk P E ops i st p2 s2):=by
 unfold wstep
 cases hg:IG all st o with
 |none=>exact trivial
 |some g=>
  have hg':=P9 hg
  cases g with
  |false=>
   simp only
   cases hd:Gq n o.dst&&(match o.dst with|some d=>(look st.rm d).isNone|none=>true)with
   |false=>exact trivial
   |true=>
    simp only[cond_true];intro _;simp only[q4L]at hd
    have hd2: ∀d,o.dst=some d->look st.rm d=none:=by
     intro d he;have:=hd.2;rw[he]at this;exact Option.isNone_iff_eq_none.1 this
    refine⟨?_,λℓ x h=>(by cases h),Ly st o.dst wO [] (λk hkk=>absurd rfl hkk),?_,λk hkk=>by simp at hkk,UD hk Dm qo hd2 (λk hkk=>absurd rfl hkk),rfl,rfl⟩
    .intro σ hσ _ a w H β K Q hrep hK
     have hw:=Ex hall hrep hg' hσ;unfold wpOp;simp only[ho,hw,q4M,if_false];refine hK _ _ H β ?_
     refine RepF.step (kin:=[]) (Lw:=[]) hrep (v:=undef) (by simpa[kwOf,qu,jk]using Step.refl hrep.hon) (AH _ _) (λk b hb=>by simp at hb) (λp hp=>by simp at hp)
      (λk hk=>by simp[jk]at hk) (λk hk=>by simp[qu]at hk) ?_
     intro d hd';have:=hd.1;rw[hd']at this;rw[hn];simpa[Gq]using this
    .intro ℓ x hx k hkk
     have:=SG (P:=P) (dat:=[]) (by trivial) ℓ x hx k hkk;simp[SF,wO,WV.exp,AV.ids]at this
  |true=>
   simp only
   cases hv:AJ st o.op.operands.toList with
   |none=>exact trivial
   |some vs=>
    simp only;obtain⟨e1,e2,e3⟩:=Bl hk hv;have hH:=q0H (P:=P) (bl:=qy st) (ty:=o.type) (G:=G) (dst:=o.dst) (op:=o.op) (h:=h) (vs:=vs) e3
    cases hr:wopH G (qy st) o.dst o.op h vs with
    |bad=>exact trivial
    |ok vc R ks Lw=>
     rw[hr]at hH;simp only
     cases hkin:kinW st ks with
     |none=>exact trivial
     |some kin=>
      simp only;obtain⟨k1,k2,k3⟩:=Fy hkin
      cases ht:(bif I4 all i&&Nat.beq ks.length 0&&Nat.beq Lw.length 0&&Nat.beq vc.length 0 then Ig R else none)with
      |none=>
       simp only
       cases hf:fin1 n all st o R ks Lw with
       |none=>exact trivial
       |some ps=>
        obtain⟨p,s⟩:=ps;simp only;intro hvc;obtain⟨g1,g2,g3⟩:=hH e2 hk.l hvc kin k1 k2;exact C5 hn hall ho hk hg' hv hkin hf g1 g2 g3
      |some q=>
       simp only
       cases hu:I4 all i&&Nat.beq ks.length 0&&Nat.beq Lw.length 0&&Nat.beq vc.length 0 with
       |false=>rw[hu]at ht;cases ht
       |true=>
        rw[hu]at ht;simp only[cond_true]at ht
        simp only[q4L]at hu;have h1:=q4V (q5w hu.1.1.2);have h2:=q4V (q5w hu.1.2);have h3:=q4V (q5w hu.2);subst h1 h2 h3;obtain⟨g1,g2,g3⟩:=hH e2 hk.l (λp hp=>by simp at hp) kin k1 k2;obtain⟨t1,t2⟩:=P2 ht
        cases hf1:fin1 n all st o (vB true) [] []with
        |none=>exact trivial
        |some ps1=>
         cases hf2:fin1 n all st o (vB false) [] []with
         |none=>exact trivial
         |some ps2=>
          obtain⟨p1,s1⟩:=ps1;obtain⟨p2,s2⟩:=ps2;simp only;exact⟨λhq=>C5 hn hall ho hk hg' hv hkin hf1 (by rw[<-t1 hq];exact g1) ⟨rfl,rfl⟩ qo,λhq=>C5 hn hall ho hk hg' hv hkin hf2 (by rw[<-t2 hq];exact g1) ⟨rfl,rfl⟩ qo⟩
    |okA vc R q b'=>
     rw[hr]at hH;simp only
     cases hb:qy st q with
     |none=>exact trivial
     |some b=>
      simp only
      cases hf:fin1 n all st o R [q] []with
      |none=>exact trivial
      |some ps=>
       obtain⟨p,s⟩:=ps;simp only;intro hvc;obtain⟨g1,g2,g3⟩:=hH e2 hk.l hvc b hb;exact Wx hn hall ho hk hg' hv hb hf g1 g2 g3
    |spl q R1 R2=>
     rw[hr]at hH;simp only;obtain⟨g1,g2⟩:=hH e2
     cases hf1:fin1 n all st o R1 [] []with
     |none=>exact trivial
     |some ps1=>
      cases hf2:fin1 n all st o R2 [] []with
      |none=>exact trivial
      |some ps2=>
       obtain⟨p1,s1⟩:=ps1;obtain⟨p2,s2⟩:=ps2;simp only;exact⟨λhq=>C5 hn hall ho hk hg' hv (kin:=[]) rfl hf1 (g1 hq).1 (g1 hq).2 qo,λhq=>C5 hn hall ho hk hg' hv (kin:=[]) rfl hf2 (g2 hq).1 (g2 hq).2 qo⟩
def altP:XV->Option XV->Prop
 | .bl (.mp l),some (.bl (.mp l'))=>l'=l
 |_,_=>False
theorem Yz{x:XV}{y:Option XV}(h:altP x y):y=some x:=by
 unfold altP at h;split at h
 .rw[h]
 .exact h.elim
def altT(M:List Nat)(i ℓ:Nat)(x:XV):Nat->List PI->List Prop
 |_,[]=>[]
 |j,q::r=>match look q.W ℓ with
  |none=>altT M i ℓ x (j+1) r
  |some y=>bif Nat.testBit (M.getD j 0) i then altT M i ℓ x (j+1) r else altP x y::altT M i ℓ x (j+1) r
def altV(M:List Nat):Nat->List PI->List Prop
 |_,[]=>[]
 |i,p::r=>match p.alt with
  |none=>altV M (i+1) r
  |some (ℓ,x)=>altT M i ℓ x (i+1) r++altV M (i+1) r
theorem CP{M:List Nat}{i ℓ:Nat}{x:XV}: ∀{l:List PI}{j:Nat},(∀v∈altT M i ℓ x j l,v)-> ∀d q,l[d]?=some q->look q.W ℓ≠none->Nat.testBit (M.getD (j+d) 0) i=true\/look q.W ℓ=some (some x)
 |[],_,_,d,q,h,_=>by simp at h
 |q0::r,j,hv,d,q,h,hne=>by
  rw[altT]at hv
  cases hl:look q0.W ℓ with
  |none=>
   rw[hl]at hv
   cases d with
   |zero=>simp at h;subst h;exact absurd hl hne
   |succ d=>rw[show j+(d+1)=j+1+d by omega];exact CP hv d q (by simpa using h) hne
  |some y=>
   rw[hl]at hv;simp only at hv
   cases hb:Nat.testBit (M.getD j 0) i with
   |true=>
    rw[hb]at hv;simp only[cond_true]at hv
    cases d with
    |zero=>exact .inl hb
    |succ d=>rw[show j+(d+1)=j+1+d by omega];exact CP hv d q (by simpa using h) hne
   |false=>
    rw[hb]at hv;simp only[cond_false]at hv
    cases d with
    |zero=>simp at h;subst h;rw[hl];exact .inr (congrArg some (Yz (hv _ q5f)))
    |succ d=>rw[show j+(d+1)=j+1+d by omega];exact CP (λv h=>hv v (q5e _ h)) d q (by simpa using h) hne
theorem KE{M:List Nat}: ∀{l:List PI}{i:Nat},(∀v∈altV M i l,v)-> ∀d e p q ℓ x,l[d]?=some p->l[e]?=some q->d<e->p.alt=some (ℓ,x)->look q.W ℓ≠none->Nat.testBit (M.getD (i+e) 0) (i+d)=true\/look q.W ℓ=some (some x)
 |[],_,_,d,e,p,q,ℓ,x,h,_,_,_,_=>by simp at h
 |p0::r,i,hv,d,e,p,q,ℓ,x,hp,hq,hde,ha,hne=>by
  rw[altV]at hv;obtain⟨e,rfl⟩: ∃e',e=e'+1:=⟨e-1,by omega⟩;have hq':r[e]?=some q:=by simpa using hq
  cases d with
  |zero=>
   simp at hp;subst hp
   rw[ha]at hv;simp only at hv
   have:=CP (λv h=>hv v (List.mem_append_left _ h)) e q hq' hne
   rwa [show i+1+e=i+(e+1) by omega]at this
  |succ d=>
   have hv2: ∀v∈altV M (i+1) r,v:=by
    split at hv
    .exact hv
    .exact λv h=>hv v (List.mem_append_right _ h)
   have:=KE hv2 d e p q ℓ x (by simpa using hp) hq' (by omega) ha hne
   rwa [show i+1+e=i+(e+1) by omega,show i+1+d=i+(d+1) by omega]at this
theorem YA{M:List Nat}{ps:List PI}(h: ∀v∈altV M 0 ps,v):LO ps.length (λi=>ps.getD i default) M:=by
 intro i j ℓ x hij hj ha hne
 have hg: ∀k,k<ps.length->ps[k]?=some (ps.getD k default):=λk hk=>by
  rw[q4X,q51 hk];rfl
 have:=KE h i j _ _ ℓ x (hg i (by omega)) (hg j hj) hij ha hne;simpa using this
structure Chain (P:Program) (E:Env) (ops:Array Oper) (st0:WSt) (ps:List PI) (st:WSt):Prop where
 fs:qt st.toA=evL ps (qt st0.toA)
 all: ∀j p,ps[j]?=some p->(Good P E ops j p (evL (ps.take j) (qt st0.toA))/\ ∀ℓ x,p.alt=some (ℓ,x)->Good P E ops j p (setA (evL (ps.take j) (qt st0.toA)) ℓ x))/\(∀ℓ x,look p.W ℓ=some (some x)-> ∀k,x.men k=true->k∈p.tch)/\
   (∀k∈p.nw,∀ℓ x,evL (ps.take j) (qt st0.toA) ℓ=some x->look p.W ℓ=none->x.men k=false)
theorem Chain.nil{E:Env}{ops:Array Oper}{st:WSt}:Chain P E ops st [] st:=⟨rfl,λj p h=>by simp at h⟩
theorem Chain.snoc{E:Env}{ops:Array Oper}{st0 st st':WSt}{ps:List PI}{p:PI}(h:Chain P E ops st0 ps st)(hs:StepOk P E ops ps.length st p st'):Chain P E ops st0 (ps++[p]) st':=by
 refine⟨by rw[hs.fs,h.fs];unfold evL;rw[List.foldl_append];rfl,λj q hq=>?_⟩;rcases q5F j ps.length with hj|hj
 .rw[List.getElem?_append_left hj]at hq
  rw[q5m (by omega)];exact h.all j q hq
 .have hj':j=ps.length:=by
   rcases Nat.eq_or_lt_of_le hj with e|e
   .exact e.symm
   .rw[q52 (by simp;omega)]at hq;cases hq
  subst hj';rw[List.getElem?_append_right (q5B _),Nat.sub_self]at hq;simp at hq;subst hq
  rw[q5m (q5B _),q5n,<-h.fs];exact⟨⟨hs.good,hs.goodA⟩,hs.tch,hs.nw⟩
theorem O8{E:Env}{ops:Array Oper}{st0 st':WSt}{ps:List PI}{draw:Bool}{id:Nat}{Q:Exit->Act->World->Prop}(hm:P.follows .mixedOrders=true)(h:Chain P E ops st0 ps st')(hlen:ps.length=ops.size)
  (hdraw:draw=true->okM ops.toList (masks 0 ops.toList [])=true/\okPl ops.toList.length (λi=>ps.getD i default) (masks 0 ops.toList [])=true/\(∀p∈ps,∀k∈p.nw,Fr st0 p.W k=true)/\ ∀v∈altV (masks 0 ops.toList []) 0 ps,v)
  (hQ: ∀a w H β,RepF E (qt st'.toA) a w H β->Q .normal a w){a:Act}{w:World}{H:Heap}{β:Bm}(hrep:RepF E (qt st0.toA) a w H β):(Code.region id ops draw).wp P Q a w:=by
 have hget: ∀i,i<ops.size->ps[i]?=some (ps.getD i default):=by
  intro i hi;rw[q4X,q51 (by omega)];rfl
 have hG: ∀i,i<ops.size->Good P E ops i ((λi=>ps.getD i default) i) (ev (λi=>ps.getD i default) (List.range i) (qt st0.toA)):=by
  intro i hi;rw[Fo _ _ _ (by omega)];exact(h.all i _ (hget i hi)).1.1
 have hQ': ∀a w H β,RepF E (ev (λi=>ps.getD i default) (List.range ops.size) (qt st0.toA)) a w H β->Q .normal a w:=by
  intro a w H β hr';rw[Fo _ _ _ (by omega),q5o (by omega),<-h.fs]at hr';exact hQ a w H β hr'
 cases draw with
 |false=>
  refine Pe (pl:=λi=>ps.getD i default) ?_ hG hQ' hrep;intro i hi k hk ℓ x hx hl;rw[Fo _ _ _ (by omega)]at hx;exact(h.all i _ (hget i hi)).2.2 k hk ℓ x hx hl
 |true=>
  obtain⟨c1,c2,c3,c4⟩:=hdraw rfl;refine Su (pl:=λi=>ps.getD i default) hm c1 (by simpa using c2) (by rw[<-hlen];exact YA c4) ?_ ?_ hG ?_ hQ' hrep
  rotate_left 2
  .intro i hi ℓ x ha
   rw[Fo _ _ _ (by omega)];exact(h.all i _ (hget i hi)).1.2 ℓ x ha
  .intro j ℓ x hx k hk
   rcases q5F j ops.size with hj|hj
   .exact(h.all j _ (hget j hj)).2.1 ℓ x hx k hk
   .have:ps.getD j default=default:=by rw[q4X,q52 (by omega)];rfl
    simp only[this]at hx;cases hx
  .intro i hi k hk ℓ x hx hl
   exact(Hb (c3 _ (q5h (hget i hi)) k hk)).2 ℓ x hx hl
end
end
def disj(a b:List Nat):Bool:=a.all λk=>!vf k b
def jM{α:Type}:List (Nat×α)->Bool
 |[]=>true
 |p::r=>r.all (λq=>!Nat.beq q.1 p.1)&&jM r
theorem wx{α:Type}: ∀{l:List (Nat×α)},jM l=true-> ∀{k:Nat}{v:α},(k,v)∈l->look l k=some v
 |(q,u)::r,h,k,v,hm=>by
  simp only[jM,q4L,List.all_eq_true]at h;rcases q5d.1 hm with e|hm
  .cases e;simp[look]
  .have:=h.1 _ hm
   have hne:q≠k:=λe=>by subst e;simp at this
   simp only[look,js hne,cond_false];exact wx h.2 hm
 |[],_,_,_,hm=>by simp at hm
theorem ww{α:Type}: ∀{l:List (Nat×α)}{f:Nat×α->Bool},jM l=true-> ∀{t:Nat}{v:α},look (l.filter f) t=some v->look l t=some v/\f (t,v)=true
 |l,f,hn,t,v,h=>by
  have:=q5g.1 (j6 h);exact⟨wx hn this.1,this.2⟩
def EntW(n:Nat)(Ks:List Nat)(st st':WSt):Prop:=Ent n Ks st.toA st'.toA
theorem Wt{n:Nat}{Ks:List Nat}{st st':WSt}(h1: ∀t v,qO st' t=some v->qO st t=some v)(h2: ∀k b,qy st' k=some b->qy st k=some b):EntW n Ks st st':=by
 intro E hn hK a w H β hr;refine⟨H,β,hr.sub λℓ x hx=>?_⟩;rcases q5J ℓ with e|e
 .obtain⟨t,rfl⟩: ∃t,ℓ=2*t:=⟨ℓ/2,by omega⟩
  rw[qL,vi]at hx⊢
  cases hv:qO st' t with
  |none=>rw[hv]at hx;cases hx
  |some v=>rw[hv]at hx;rw[h1 t v hv];exact hx
 .obtain⟨t,rfl⟩: ∃t,ℓ=2*t+1:=⟨ℓ/2,by omega⟩
  rw[qj,qW]at hx⊢
  cases hv:qy st' t with
  |none=>rw[hv]at hx;cases hx
  |some v=>rw[hv]at hx;rw[h2 t v hv];exact hx
theorem N4{n:Nat}{Ks:List Nat}{st st':WSt}(h1: ∀t v',qO st' t=some v'-> ∃v,qO st t=some v/\ ∀β H u,v.exp.sat β H u->v'.exp.sat β H u)
  (h2: ∀k b',qy st' k=some b'-> ∃b,qy st k=some b/\BImp k b.exp b'.exp):EntW n Ks st st':=by
 intro E hn hK a w H β hr;refine⟨H,β,⟨hr.defers,hr.size,?_,?_,?_,?_,hr.bor,hr.os,hr.tape,hr.output,hr.wsize,hr.frame,hr.hle,hr.hnew,hr.hon⟩⟩
 .intro t av ht
  rw[qL,vi]at ht
  cases hv:qO st' t with
  |none=>rw[hv]at ht;cases ht
  |some v'=>
   rw[hv]at ht;simp at ht;subst ht
   obtain⟨v,hl,hi⟩:=h1 t v' hv;obtain⟨u,hu,hs⟩:=hr.slot t v.exp (by rw[qL,vi,hl];rfl);exact⟨u,hu,hi _ _ _ hs⟩
 .intro k b hb
  rw[qj,qW]at hb
  cases hv:qy st' k with
  |none=>rw[hv]at hb;cases hb
  |some b'=>
   rw[hv]at hb;simp at hb;subst hb
   obtain⟨b0,hl,hi⟩:=h2 k b' hv;exact hi _ _ _ (hr.blk k b0.exp (by rw[qj,qW,hl];rfl))
 .intro k x b c hx
  rw[qj,qW]at hx
  cases hv:qy st' k with
  |none=>rw[hv]at hx;cases hx
  |some b'=>
   obtain⟨b0,hl,hi⟩:=h2 k b' hv;exact hr.own k b0.exp b c (by rw[qj,qW,hl];rfl)
 .intro k k' x x' b c c' hx hx'
  rw[qj,qW]at hx hx'
  cases hv:qy st' k with
  |none=>rw[hv]at hx;cases hx
  |some b1=>
   cases hv':qy st' k' with
   |none=>rw[hv']at hx';cases hx'
   |some b2=>
    obtain⟨b0,hl,_⟩:=h2 k b1 hv;obtain⟨b0',hl',_⟩:=h2 k' b2 hv';exact hr.inj k k' b0.exp b0'.exp b c c' (by rw[qj,qW,hl];rfl) (by rw[qj,qW,hl'];rfl)
def GN(st:WSt)(slot K:Nat)(k:Option Nat):Bool:=
 Nat.blt K 100000&&jM st.m&&jM st.L&&(look st.rm slot).isNone&&
  st.rm.all (λp=>!vf K p.2.ids&&(match k with|some k=>!vf k p.2.ids|none=>true))&&
  st.rL.all (λp=>!Nat.beq p.1 K&&!vf K p.2.ids&&(match k with|some k=>!Nat.beq p.1 k&&!vf k p.2.ids|none=>true))
def renM(slot K:Nat)(k:Option Nat)(p:Nat×WV):Bool:=!Nat.beq p.1 slot&&!vf K p.2.ids&&(match k with|some k=>!vf k p.2.ids|none=>true)
def renL(K:Nat)(k:Option Nat)(p:Nat×WB):Bool:=!Nat.beq p.1 K&&!vf K p.2.ids&&(match k with|some k=>!Nat.beq p.1 k&&!vf k p.2.ids|none=>true)
def wF(st:WSt)(slot K:Nat)(k:Option Nat)(v:WV)(B:WB):WSt:=⟨st.rm,(slot,v)::st.m.filter (renM slot K k),st.rL,(K,B)::st.L.filter (renL K k)⟩
def renG(slot K:Nat)(t:Ty)(b:Bd)(st:WSt):Option WSt:=
 match qO st slot with
 |some (.c (.one (.gs k n w nb)))=>bif Nat.beq k K then some st else(match look st.L k with
  |some (.gro t' b' l)=>bif GN st slot K (some k)then some (wF st slot K (some k) (.c (.one (.gs K n w nb))) (.gro t' b' l))else none
  |_=>none)
 |some (.c (.one a))=>bif vX a&&GN st slot K none then some (wF st slot K none (.c (.one (.gs K 0 t.w 0))) (.gro t b []))else none
 |_=>none
theorem CW{α:Type}{l:List (Nat×α)}{f:Nat×α->Bool}{t:Nat}(h:look l t=none):look (l.filter f) t=none:=
 jR.2 λp hp=>(jR.1 h) p ((q5g.1 hp).1)
theorem N5{n:Nat}{Ks:List Nat}{st:WSt}(hk:st.Ok){slot K:Nat}{k:Option Nat}{v:WV}{t:Ty}{b0:Bd}{l:List t.den}(hr:GN st slot K k=true){m w nb:Nat}(hvn:v= .c (.one (.gs K m w nb)))(hm:m<=nb)(hB:(WB.gro t b0 l).ok)
  (hold:(∃k0,k=some k0/\k0≠K/\qO st slot=some (.c (.one (.gs k0 m w nb)))/\look st.L k0=some (.gro t b0 l))\/(k=none/\m=0/\l=[]/\qO st slot=some (.c (.one (.vl (.slice none 0 0)))))):
  EntW n Ks st (wF st slot K k v (.gro t b0 l))/\(wF st slot K k v (.gro t b0 l)).Ok:=by
 unfold GN at hr;simp only[q4L,List.all_eq_true]at hr;obtain⟨⟨⟨⟨⟨r0,r1⟩,r2⟩,r3⟩,r4⟩,r5⟩:=hr;have r0:K<100000:=by simpa using r0
 have r3:look st.rm slot=none:=Option.isNone_iff_eq_none.1 r3
 have hslot: ∀t v',qO (wF st slot K k v (.gro _ b0 l)) t=some v'->(t=slot/\v'=v)\/(t≠slot/\qO st t=some v'/\K∉v'.ids):=by
  intro t v' h;unfold qO wF at h;simp only[look]at h;by_cases e:slot=t
  .subst e;simp at h;exact .inl ⟨rfl,h.symm⟩
  .rw[js e]at h;simp only[cond_false]at h
   refine .inr ⟨λe'=>e e'.symm,?_⟩
   cases hf:look (st.m.filter (renM slot K k)) t with
   |some x=>
    rw[hf]at h;simp at h;subst h
    obtain⟨h1,h2⟩:=ww r1 hf;simp only[renM,q4L,q4N]at h2;exact⟨by unfold qO;rw[h1],λhm=>by rw[wK.2 hm]at h2;exact absurd h2.1.2 (by simp)⟩
   |none=>
    rw[hf]at h;simp only at h
    have h4:=(r4 _ (j6 h));simp only[q4L,q4N]at h4;refine⟨?_,λhm=>by rw[wK.2 hm]at h4;exact absurd h4.1 (by simp)⟩;unfold qO;rw[hk.dm t (by rw[h];simp)];exact h
 have hblk: ∀q b',qy (wF st slot K k v (.gro _ b0 l)) q=some b'->(q=K/\b'= .gro _ b0 l)\/(q≠K/\qy st q=some b'/\K∉b'.ids/\ ∀k0,k=some k0->q≠k0):=by
  intro q b' h;unfold qy wF at h;simp only[look]at h;by_cases e:K=q
  .subst e;simp at h;exact .inl ⟨rfl,h.symm⟩
  .rw[js e]at h;simp only[cond_false]at h
   refine .inr ⟨λe'=>e e'.symm,?_⟩
   cases hf:look (st.L.filter (renL K k)) q with
   |some x=>
    rw[hf]at h;simp at h;subst h
    obtain⟨h1,h2⟩:=ww r2 hf;simp only[renL,q4L,q4N]at h2;refine⟨by unfold qy;rw[h1],λhm=>by rw[wK.2 hm]at h2;exact absurd h2.1.2 (by simp),λk0 hk0 e=>?_⟩;subst hk0 e;simp at h2
   |none=>
    rw[hf]at h;simp only at h
    have h4:=(r5 _ (j6 h));simp only[q4L,q4N]at h4;refine⟨?_,λhm=>by rw[wK.2 hm]at h4;exact absurd h4.1.2 (by simp),λk0 hk0 e=>?_⟩
    .unfold qy;rw[hk.dl q (by rw[h];simp)];exact h
    .subst hk0 e;simp at h4
 refine⟨?_,⟨λt v' h=>?_,λq b' h=>?_,λt ht=>?_,λq hq=>?_⟩⟩
 .intro E hn hK a w' H β hrep
  let β':Bm:=λq=>if q=K then(match k with|some k0=>β k0|none=>none)else β q
  have hβ: ∀q,q≠K->β' q=β q:=λq h=>if_neg h
  have hβK:β' K=(match k with|some k0=>β k0|none=>none):=if_pos rfl
  have holdL: ∀k0,k=some k0->look st.L k0=some (.gro _ b0 l)/\qy st k0=some (.gro _ b0 l):=by
   intro k0 h0;rcases hold with⟨k1,h1,_,_,h2⟩|⟨h1,_⟩
   .rw[h0]at h1;cases h1
    exact⟨h2,by unfold qy;rw[h2]⟩
   .rw[h0]at h1;cases h1
  have hcA: ∀(v':WV),K∉v'.ids-> ∀q,v'.exp.men q=true->β' q=β q:=λv' h q hq=>hβ q λe=>h (e▸WV.men_ids hq)
  have hcB: ∀(b':WB),K∉b'.ids-> ∀q,b'.exp.men q=true->β' q=β q:=λb' h q hq=>hβ q λe=>h (e▸WB.men_ids hq)
  have hrepL: ∀k0,k=some k0->(WB.gro _ b0 l).exp.rep β w' H k0:=λk0 h0=>hrep.blk k0 _ (by rw[qj,qW,(holdL k0 h0).2];rfl)
  have hin: ∀q b',qy (wF st slot K k v (.gro _ b0 l)) q=some b'-> ∀b c,β' q=some (b,c)-> ∃q0 x,qt st.toA (2*q0+1)=some (.bl x)/\β q0=some (b,c)/\(q=K->k=some q0)/\(q≠K->q0=q):=by
   intro q b' h b c hb;rcases hblk q b' h with⟨rfl,rfl⟩|⟨h1,h2,h3,h4⟩
   .rw[hβK]at hb
    cases k with
    |none=>cases hb
    |some k0=>exact⟨k0,_,by rw[qj,qW,(holdL k0 rfl).2];rfl,hb,λ_=>rfl,λh=>absurd rfl h⟩
   .rw[hβ q h1]at hb
    exact⟨q,_,by rw[qj,qW,h2];rfl,hb,λh=>absurd h h1,λ_=>rfl⟩
  refine⟨H,β',⟨hrep.defers,hrep.size,?_,?_,?_,?_,λq hq=>?_,hrep.os,hrep.tape,hrep.output,hrep.wsize,hrep.frame,hrep.hle,hrep.hnew,hrep.hon⟩⟩
  .intro t av ht
   rw[qL,vi]at ht
   cases hv:qO (wF st slot K k v (.gro _ b0 l)) t with
   |none=>rw[hv]at ht;cases ht
   |some v'=>
    rw[hv]at ht;simp at ht;subst ht
    rcases hslot t v' hv with⟨rfl,rfl⟩|⟨h1,h2,h3⟩
    .subst hvn
     rcases hold with⟨k0,rfl,hne,hs,hl⟩|⟨rfl,rfl,hl,hs⟩
     .obtain⟨u,hu,hsat⟩:=hrep.slot t _ (by rw[qL,vi,hs];rfl)
      refine⟨u,hu,?_⟩;rcases hsat with⟨h5,h6,h7⟩|⟨b,c,h5,h6⟩
      .exact .inl ⟨by rw[hβK];exact h5,h6,h7⟩
      .exact .inr ⟨b,c,by rw[hβK];exact h5,h6⟩
     .obtain⟨u,hu,hsat⟩:=hrep.slot t _ (by rw[qL,vi,hs];rfl)
      exact⟨u,hu,.inl ⟨hβK,rfl,hsat.1⟩⟩
    .obtain⟨u,hu,hsat⟩:=hrep.slot t _ (by rw[qL,vi,h2];rfl)
     exact⟨u,hu,AV.sat_congr (Heap.Le.refl _) (hcA v' h3) hsat⟩
  .intro q x hx
   rw[qj,qW]at hx
   cases hv:qy (wF st slot K k v (.gro _ b0 l)) q with
   |none=>rw[hv]at hx;cases hx
   |some b'=>
    rw[hv]at hx;simp at hx;subst hx
    rcases hblk q b' hv with⟨rfl,rfl⟩|⟨h1,h2,h3,h4⟩
    .rcases hold with⟨k0,rfl,hne,hs,hl⟩|⟨rfl,rfl,rfl,hs⟩
     .have hcell: ∀(vs:List Value),Sats β H (qI t l) vs->Sats β' H (qI t l) vs:=λvs h=>Sats.congr (Heap.Le.refl _) (λq hq=>by rw[wG]at hq;cases hq) h
      have h9:=hrepL k0 rfl;rcases h9 with⟨h5,h6⟩|⟨b,c,arr,T,h5,h6,h7,h8,h9⟩
      .exact .inl ⟨by rw[hβK];exact h5,h6⟩
      .refine .inr ⟨b,c,arr,T,by rw[hβK];exact h5,h6,h7,h8,?_⟩
       exact Sats.congr (Heap.Le.refl _) (λq hq=>by rw[wG]at hq;cases hq) h9
     .exact .inl ⟨hβK,rfl⟩
    .refine Blk.rep_congr (hrep.blk q b'.exp (by rw[qj,qW,h2];rfl)) (Heap.Le.refl _) ?_ (λ_ _ _=>rfl)
     rintro q' (rfl|hq')
     .exact hβ _ h1
     .exact hcB b' h3 q' hq'
  .intro q x b c hx hb
   rw[qj,qW]at hx
   cases hv:qy (wF st slot K k v (.gro _ b0 l)) q with
   |none=>rw[hv]at hx;cases hx
   |some b'=>
    obtain⟨q0,y,h1,h2,_,_⟩:=hin q b' hv b c hb;exact hrep.own q0 y b c h1 h2
  .intro q q' x x' b c c' hx hx' hne hb hb'
   rw[qj,qW]at hx hx'
   cases hv:qy (wF st slot K k v (.gro _ b0 l)) q with
   |none=>rw[hv]at hx;cases hx
   |some b1=>
    cases hv':qy (wF st slot K k v (.gro _ b0 l)) q' with
    |none=>rw[hv']at hx';cases hx'
    |some b2=>
     obtain⟨q0,y,h1,h2,h3,h4⟩:=hin q b1 hv b c hb;obtain⟨q0',y',h1',h2',h3',h4'⟩:=hin q' b2 hv' b c' hb';refine hrep.inj q0 q0' y y' b c c' h1 h1' ?_ h2 h2';intro e;by_cases eq:q=K
     .have k1:=h3 eq
      have hq':q'≠K:=λe'=>hne (eq.trans e'.symm)
      have:=h4' hq';rcases hblk q' b2 hv' with⟨e',_⟩|⟨_,_,_,h9⟩
      .exact hq' e'
      .exact h9 q0 k1 (by rw[<-this,e])
     .have:=h4 eq
      by_cases eq':q'=K
      .have k1:=h3' eq'
       rcases hblk q b1 hv with⟨e',_⟩|⟨_,_,_,h9⟩
       .exact eq e'
       .exact h9 q0' k1 (by rw[<-this,e])
      .exact hne (by rw[<-h4 eq,<-h4' eq',e])
  .rw[hβ q (λe=>by have:=E.hKs q hq;omega)];exact hrep.bor q hq
 .rcases hslot t v' h with⟨_,rfl⟩|⟨_,h2,_⟩
  .subst hvn;exact⟨hm,rfl⟩
  .exact hk.m t v' h2
 .rcases hblk q b' h with⟨_,rfl⟩|⟨_,h2,_⟩
  .exact hB
  .exact hk.l q b' h2
 .show look ((slot,v)::st.m.filter (renM slot K k)) t=none
  have hne:slot≠t:=λe=>ht (e▸r3)
  simp only[look,js hne,cond_false];exact CW (hk.dm t ht)
 .show look ((K,WB.gro t b0 l)::st.L.filter (renL K k)) q=none
  have hq':look st.rL q≠none:=hq;obtain⟨x,hx⟩:=Option.ne_none_iff_exists'.1 hq';have h4:=(r5 _ (j6 hx));simp only[q4L,q4N]at h4;have hne:K≠q:=λe=>by subst e;simp at h4
  simp only[look,js hne,cond_false];exact CW (hk.dl q hq')
theorem G0{n:Nat}{Ks:List Nat}{st st':WSt}(hk:st.Ok){slot K:Nat}{t:Ty}{b:Bd}(h:renG slot K t b st=some st'):EntW n Ks st st'/\st'.Ok/\st'.rm=st.rm/\st'.rL=st.rL:=by
 unfold renG at h;split at h
 .rename_i k m w nb hl
  cases hb:Nat.beq k K with
  |true=>rw[hb]at h;simp at h;subst h;exact⟨Ent.refl,hk,rfl,rfl⟩
  |false=>
   rw[hb]at h;simp only[cond_false]at h
   split at h
   .rename_i t' b' l hL
    cases hr:GN st slot K (some k)with
    |false=>rw[hr]at h;cases h
    |true=>
     rw[hr]at h;simp at h;subst h
     have hB:(WB.gro t' b' l).ok:=hk.l k _ (by unfold qy;rw[hL]);obtain⟨h1,h2⟩:=N5 (n:=n) (Ks:=Ks) hk hr rfl (hk.m slot _ hl).1 hB (.inl ⟨k,rfl,(λe=>by subst e;simp at hb),hl,hL⟩);exact⟨h1,h2,rfl,rfl⟩
   .cases h
 .rename_i a hne hl
  cases hc:vX a&&GN st slot K none with
  |false=>rw[hc]at h;cases h
  |true=>
   rw[hc]at h;simp at h;subst h
   simp only[q4L]at hc;have:=zZ hc.1;subst this
   obtain⟨h1,h2⟩:=N5 (n:=n) (Ks:=Ks) (t:=t) (b0:=b) (l:=[]) hk hc.2 rfl (q5B 0) (λx hx=>by simp at hx) (.inr ⟨rfl,rfl,rfl,hl⟩);exact⟨h1,h2,rfl,rfl⟩
 .cases h
def frzA(k:Nat)(t:Ty)(b:Bd)(l:List t.den)(full:Bool)(gr:Bool):WA->Option (WA×List Prop)
 | .ls k' lo n cap w nb=>bif Nat.beq k' k then(bif Nat.beq w t.w then(match full,lo with
   |true,none=>some (.dt (.sl t) (.s nb b) l,[n=l.length])
   |false,none=>some (.dt (.sl t) (.s nb b) (l.take n),[n<=l.length])
   |false,some o=>some (.dt (.sl t) (.s nb b) ((l.drop o).take n),[o+n<=l.length])
   |true,some _=>none)else none)else some (.ls k' lo n cap w nb,[])
 | .gs k' n w nb=>bif Nat.beq k' k then(bif Nat.beq w t.w&&Nat.blt 0 t.w&&gr then(match full with
   |true=>some (.dt (.sl t) (.s nb b) l,[n=l.length])
   |false=>some (.dt (.sl t) (.s nb b) (l.take n),[n<=l.length]))else none)else some (.gs k' n w nb,[])
 |a=>bif vf k a.ids then none else some (a,[])
def gOf(t:Ty)(gr:Bool):Option Nat:=bif gr then some t.w else none
theorem KX{k:Nat}{t:Ty}{b:Bd}{l:List t.den}{full gr:Bool}{a a':WA}{vc:List Prop}(h:frzA k t b l full gr a=some (a',vc))(hl: ∀x∈l,Bnd t b x)(hok:a.ok)(hvc: ∀p∈vc,p):
  RelAs k (jc t l) (gOf t gr) a.exp a'.exp/\a'.ok/\a'.wd=a.wd:=by
 unfold frzA at h;split at h
 .rename_i k' lo n cap w nb
  cases hk:Nat.beq k' k with
  |false=>rw[hk]at h;simp at h;obtain⟨rfl,rfl⟩:=h;exact⟨Bb,hok,rfl⟩
  |true=>
   have:=q5w hk;subst this
   rw[hk]at h;simp only[cond_true]at h
   cases hw:Nat.beq w t.w with
   |false=>rw[hw]at h;cases h
   |true=>
    have:=q5w hw;subst this
    rw[hw]at h;simp only[cond_true]at h
    have ho:n<=cap/\n<=nb:=hok;split at h
    .simp only[q61,q62]at h;obtain⟨rfl,rfl⟩:=h
     have e:n=l.length:=hvc _ q5f;subst e;refine⟨⟨Sr (l:=0) (es:=t.w) (by simp) ho.1 (by rw[jJ];omega) (by rw[q5Y,q4U,q5o (by rw[jJ];exact q5B _)];rfl),trivial⟩,⟨ho.2,hl⟩,rfl⟩
    .simp only[q61,q62]at h;obtain⟨rfl,rfl⟩:=h
     have e:n<=l.length:=hvc _ q5f;have hle:n*t.w<=l.length*t.w:=q5O _ e;have hlen:(l.take n).length=n:=by rw[q5a];omega
     refine⟨⟨?_,trivial⟩,⟨by show(l.take n).length<=nb;omega,λx hx=>hl x (q5i hx)⟩,rfl⟩;show RelA _ _ _ (.sl k' ((none:Option Nat).getD 0*t.w) n cap) (.abs (flP (jc t (l.take n)) (l.take n).length));rw[hlen];exact Sr (l:=0) (es:=t.w) (by simp) ho.1 (by rw[jJ];omega) (by rw[q5Y,q4U,Ax])
    .rename_i o
     simp only[q61,q62]at h;obtain⟨rfl,rfl⟩:=h
     have e:o+n<=l.length:=hvc _ q5f;have hle:(o+n)*t.w<=l.length*t.w:=q5O _ e;have hlen:((l.drop o).take n).length=n:=by rw[q5a,q57];omega
     refine⟨⟨?_,trivial⟩,⟨by show((l.drop o).take n).length<=nb;omega,λx hx=>hl x (List.mem_of_mem_drop (q5i hx))⟩,rfl⟩;show RelA _ _ _ (.sl k' ((some o).getD 0*t.w) n cap) (.abs (flP (jc t ((l.drop o).take n)) ((l.drop o).take n).length));rw[hlen];exact Sr (l:=o) (es:=t.w) (by simp) ho.1 (by rw[jJ,<-q5s];exact hle) (by rw[CO,Ax])
    .cases h
 .rename_i k' n w nb
  cases hk:Nat.beq k' k with
  |false=>rw[hk]at h;simp at h;obtain⟨rfl,rfl⟩:=h;exact⟨Bb,hok,rfl⟩
  |true=>
   have:=q5w hk;subst this
   rw[hk]at h;simp only[cond_true]at h
   cases hw:Nat.beq w t.w&&Nat.blt 0 t.w&&gr with
   |false=>rw[hw]at h;cases h
   |true=>
    simp only[q4L]at hw;obtain⟨⟨hw1,hw2⟩,hw3⟩:=hw;have e:=q5w hw1;subst e
    have h0:0<t.w:=by simpa using hw2
    subst hw3;have hb0:(Nat.beq t.w t.w&&Nat.blt 0 t.w&&true)=true:=by simp[h0]
    rw[hb0]at h;simp only[cond_true]at h;have ho:n<=nb:=hok;split at h
    .simp only[q61,q62]at h;obtain⟨rfl,rfl⟩:=h
     have e:n=l.length:=hvc _ q5f;subst e;exact⟨⟨q4w rfl h0 (by rw[jJ]),trivial⟩,⟨ho,hl⟩,rfl⟩
    .simp only[q61,q62]at h;obtain⟨rfl,rfl⟩:=h
     have e:n<=l.length:=hvc _ q5f;have hle:n*t.w<=l.length*t.w:=q5O _ e;have hlen:(l.take n).length=n:=by rw[q5a];omega
     refine⟨⟨?_,trivial⟩,⟨by show(l.take n).length<=nb;omega,λx hx=>hl x (q5i hx)⟩,rfl⟩;show RelA _ _ _ (.gs k' n) (.abs (flP (jc t (l.take n)) (l.take n).length));rw[hlen];exact q2v rfl h0 (by rw[jJ];exact hle) (by rw[Ax])
 .cases hm:vf k a.ids with
  |true=>rw[hm]at h;cases h
  |false=>rw[hm]at h;simp at h;obtain⟨rfl,rfl⟩:=h;exact⟨Bb,hok,rfl⟩
def Ev(k:Nat)(t:Ty)(b:Bd)(l:List t.den)(full gr:Bool):List WA->Option (List WA×List Prop)
 |[]=>some ([],[])
 |a::r=>match frzA k t b l full gr a with
  |some (a',v)=>match Ev k t b l full gr r with
   |some (r',v')=>some (a'::r',v++v')
   |none=>none
  |none=>none
theorem RelAs.app{k:Nat}{cells:List CAtom}{g:Option Nat}: ∀{a a' b b':List Atom},RelAs k cells g a a'->RelAs k cells g b b'->RelAs k cells g (a++b) (a'++b')
 |[],[],_,_,_,h=>h
 |_::_,_::_,_,_,h,k=>⟨h.1,RelAs.app h.2 k⟩
 |[],_::_,_,_,h,_=>h.elim
 |_::_,[],_,_,h,_=>h.elim
theorem Ew{k:Nat}{t:Ty}{b:Bd}{l:List t.den}{full gr:Bool}(hl: ∀x∈l,Bnd t b x): ∀{zs zs':List WA}{vc:List Prop},Ev k t b l full gr zs=some (zs',vc)->WAs.ok zs->(∀p∈vc,p)->
  RelAs k (jc t l) (gOf t gr) (WAs.exp zs) (WAs.exp zs')/\WAs.ok zs'
 |[],zs',vc,h,_,_=>by simp[Ev]at h;obtain⟨rfl,rfl⟩:=h;exact⟨trivial,λa ha=>by simp at ha⟩
 |a::r,zs',vc,h,hok,hvc=>by
  simp only[Ev]at h
  cases h1:frzA k t b l full gr a with
  |none=>rw[h1]at h;cases h
  |some q=>
   obtain⟨a',v⟩:=q;rw[h1]at h;simp only at h
   cases h2:Ev k t b l full gr r with
   |none=>rw[h2]at h;cases h
   |some q=>
    obtain⟨r',v'⟩:=q;rw[h2]at h;simp at h;obtain⟨rfl,rfl⟩:=h
    rw[WAs.ok_cons]at hok;obtain⟨p1,p2⟩:=AllP.app hvc;obtain⟨q1,q2,q3⟩:=KX h1 hl hok.1 p1;obtain⟨q4,q5⟩:=Ew hl h2 hok.2 p2;rw[WAs.exp_cons,WAs.exp_cons];exact⟨RelAs.app q1 q4,WAs.ok_cons.2 ⟨q2,q5⟩⟩
def frzV(k:Nat)(t:Ty)(b:Bd)(l:List t.den)(full gr:Bool):WV->Option (WV×List Prop)
 | .c (.one a)=>match frzA k t b l full gr a with
  |some (a',v)=>some (.c (.one a'),v)
  |none=>none
 | .c (.agg zs)=>match Ev k t b l full gr zs with
  |some (zs',v)=>some (.c (.agg zs'),v)
  |none=>none
 | .tup _=>none
theorem TD{k:Nat}{t:Ty}{b:Bd}{l:List t.den}{full gr:Bool}(hl: ∀x∈l,Bnd t b x){v v':WV}{vc:List Prop}(h:frzV k t b l full gr v=some (v',vc))(hok:v.ok)(hvc: ∀p∈vc,p):
  RelV k (jc t l) (gOf t gr) v.exp v'.exp/\v'.ok:=by
 unfold frzV at h;split at h
 .rename_i a
  split at h
  .rename_i a' w ha
   simp only[q61,q62]at h;obtain⟨rfl,rfl⟩:=h
   obtain⟨q1,q2,q3⟩:=KX ha hl hok.1 hvc;refine⟨?_,q2,by rw[q3];exact hok.2⟩;rw[WA.exp_one hok.2,WA.exp_one (a:=a') (by rw[q3];exact hok.2)]at q1;exact q2W q1.1
  .cases h
 .rename_i zs
  split at h
  .rename_i zs' w ha
   simp only[q61,q62]at h;obtain⟨rfl,rfl⟩:=h
   obtain⟨q1,q2⟩:=Ew hl ha hok hvc;exact⟨q2V q1,q2⟩
  .cases h
 .cases h
def GX(k:Nat)(t:Ty)(b:Bd)(l:List t.den)(full gr:Bool)(ts:List Nat):List (Nat×WV)->Option (List (Nat×WV)×List Prop)
 |[]=>some ([],[])
 |p::r=>match GX k t b l full gr ts r with
  |none=>none
  |some (r',v)=>bif vf k p.2.ids then(bif vf p.1 ts then(match frzV k t b l full gr p.2 with
    |some (x,v')=>some ((p.1,x)::r',v'++v)
    |none=>none)else some (r',v))else some (p::r',v)
theorem Jx{k:Nat}{t:Ty}{b:Bd}{l:List t.den}{full gr:Bool}{ts:List Nat}(hl: ∀x∈l,Bnd t b x): ∀{m m':List (Nat×WV)}{vc:List Prop},GX k t b l full gr ts m=some (m',vc)->(∀p∈m,p.2.ok)->(∀p∈vc,p)->
  ∀q∈m',∃p∈m,p.1=q.1/\RelV k (jc t l) (gOf t gr) p.2.exp q.2.exp/\q.2.ok
 |[],m',vc,h,_,_,q,hq=>by simp[GX]at h;obtain⟨rfl,rfl⟩:=h;simp at hq
 |p::r,m',vc,h,hok,hvc,q,hq=>by
  simp only[GX]at h
  cases h1:GX k t b l full gr ts r with
  |none=>rw[h1]at h;cases h
  |some z=>
   obtain⟨r',v⟩:=z;rw[h1]at h;simp only at h
   have ih:=λhvc'=>Jx hl h1 (λp hp=>hok p (q5e _ hp)) hvc'
   cases h2:vf k p.2.ids with
   |false=>
    rw[h2]at h;simp at h;obtain⟨rfl,rfl⟩:=h
    rcases q5d.1 hq with rfl|hq
    .exact⟨q,q5f,rfl,QB,hok q q5f⟩
    .obtain⟨p',hp',h3⟩:=ih hvc q hq;exact⟨p',q5e _ hp',h3⟩
   |true=>
    rw[h2]at h;simp only[cond_true]at h
    cases h3:vf p.1 ts with
    |false=>
     rw[h3]at h;simp at h;obtain⟨rfl,rfl⟩:=h
     obtain⟨p',hp',h4⟩:=ih hvc q hq;exact⟨p',q5e _ hp',h4⟩
    |true=>
     rw[h3]at h;simp only[cond_true]at h
     split at h
     .rename_i x v' hx
      simp only[q61,q62]at h;obtain⟨rfl,rfl⟩:=h
      obtain⟨p1,p2⟩:=AllP.app hvc;rcases q5d.1 hq with rfl|hq
      .obtain⟨q1,q2⟩:=TD hl hx (hok p q5f) p1
       exact⟨p,q5f,rfl,q1,q2⟩
      .obtain⟨p',hp',h4⟩:=ih p2 q hq;exact⟨p',q5e _ hp',h4⟩
     .cases h
def frzL(k:Nat)(t:Ty)(b:Bd)(l:List t.den)(full gr:Bool):List (Nat×WB)->Option (List (Nat×WB)×List Prop)
 |[]=>some ([],[])
 |p::r=>match frzL k t b l full gr r with
  |none=>none
  |some (r',v)=>bif Nat.beq p.1 k then some (r',v)else bif vf k p.2.ids then(match p.2 with
    | .rig zs=>match Ev k t b l full gr zs with
     |some (zs',v')=>some ((p.1,.rig zs')::r',v'++v)
     |none=>none
    |_=>none)else some (p::r',v)
theorem KY{k:Nat}{t:Ty}{b:Bd}{l:List t.den}{full gr:Bool}(hl: ∀x∈l,Bnd t b x): ∀{m m':List (Nat×WB)}{vc:List Prop},frzL k t b l full gr m=some (m',vc)->(∀p∈m,p.2.ok)->(∀p∈vc,p)->
  ∀q∈m',q.1≠k/\ ∃p∈m,p.1=q.1/\RelB k (jc t l) (gOf t gr) p.2.exp q.2.exp/\q.2.ok
 |[],m',vc,h,_,_,q,hq=>by simp[frzL]at h;obtain⟨rfl,rfl⟩:=h;simp at hq
 |p::r,m',vc,h,hok,hvc,q,hq=>by
  simp only[frzL]at h
  cases h1:frzL k t b l full gr r with
  |none=>rw[h1]at h;cases h
  |some z=>
   obtain⟨r',v⟩:=z;rw[h1]at h;simp only at h
   have ih:=λhvc'=>KY hl h1 (λp hp=>hok p (q5e _ hp)) hvc'
   cases h0:Nat.beq p.1 k with
   |true=>
    rw[h0]at h;simp at h;obtain⟨rfl,rfl⟩:=h
    obtain⟨h3,p',hp',h4⟩:=ih hvc q hq;exact⟨h3,p',q5e _ hp',h4⟩
   |false=>
    have hne:p.1≠k:=λe=>by rw[e]at h0;simp at h0
    rw[h0]at h;simp only[cond_false]at h
    cases h2:vf k p.2.ids with
    |false=>
     rw[h2]at h;simp at h;obtain⟨rfl,rfl⟩:=h
     rcases q5d.1 hq with rfl|hq
     .exact⟨hne,q,q5f,rfl,Qs,hok q q5f⟩
     .obtain⟨h3,p',hp',h4⟩:=ih hvc q hq;exact⟨h3,p',q5e _ hp',h4⟩
    |true=>
     rw[h2]at h;simp only[cond_true]at h
     split at h
     .rename_i zs hp2
      split at h
      .rename_i zs' v' hx
       simp only[q61,q62]at h;obtain⟨rfl,rfl⟩:=h
       obtain⟨p1,p2⟩:=AllP.app hvc;rcases q5d.1 hq with rfl|hq
       .have hok1:WAs.ok zs:=by have:=hok p q5f;rw[hp2]at this;exact this
        obtain⟨q1,q2⟩:=Ew hl hx hok1 p1;exact⟨hne,p,q5f,rfl,by rw[hp2];exact Xf q1,q2⟩
       .obtain⟨h3,p',hp',h4⟩:=ih p2 q hq;exact⟨h3,p',q5e _ hp',h4⟩
      .cases h
     .cases h
structure PExt where
 f:List Nat->WSt->Option (List Prop×WSt)
 h: ∀{n:Nat}{Ks:List Nat}{st st':WSt}{vc:List Prop},st.Ok->f Ks st=some (vc,st')->(∀p∈vc,p)->EntW n Ks st st'/\st'.Ok/\st'.rm=st.rm/\st'.rL=st.rL
inductive PreOp where
 |ex (X:PExt)
 |frz (k:Nat) (full:Bool) (ts:List Nat)
 |ren (slot K:Nat) (t:Ty) (b:Bd)
 |drop (ts:List Nat)
 |bd (slot:Nat) (b:Bd)
def Rq(Ks:List Nat)(st:WSt)(k:Nat):Bool:=
 Nat.blt k 100000&&jM st.m&&jM st.L&&Ks.all (λk0=>(qy st k0).isSome)&&st.rm.all (λp=>!vf k p.2.ids)&&st.rL.all (λp=>!Nat.beq p.1 k&&!vf k p.2.ids)
def M2(Ks:List Nat)(st:WSt)(k:Nat)(t:Ty)(b:Bd)(l:List t.den)(full gr:Bool)(ts:List Nat):Option (List Prop×WSt):=
 bif Rq Ks st k then(match GX k t b l full gr ts st.m with
  |some (m',v1)=>match frzL k t b l full gr st.L with
   |some (L',v2)=>some (v1++v2,⟨st.rm,m',st.rL,L'⟩)
   |none=>none
  |none=>none)else none
def Cp(ts:List Nat)(st:WSt):WSt:=⟨st.rm,st.m.filter (λp=>!vf p.1 ts),st.rL,st.L⟩
theorem P7{n:Nat}{Ks:List Nat}{st:WSt}(hk:st.Ok){ts:List Nat}(hn:jM st.m=true):EntW n Ks st (Cp ts st)/\(Cp ts st).Ok/\(Cp ts st).rm=st.rm/\(Cp ts st).rL=st.rL:=by
 have h1: ∀t v,qO (Cp ts st) t=some v->qO st t=some v:=by
  intro t v h;unfold qO Cp at h;simp only at h;unfold qO
  cases hf:look (st.m.filter (λp=>!vf p.1 ts)) t with
  |some x=>rw[hf]at h;rw[(ww hn hf).1];exact h
  |none=>rw[hf]at h;simp only at h;rw[hk.dm t (by rw[h];simp)];exact h
 refine⟨Wt h1 (λk b h=>h),⟨λt v h=>hk.m t v (h1 t v h),λk b h=>hk.l k b h,λt ht=>CW (hk.dm t ht),λk hk'=>hk.dl k hk'⟩,rfl,rfl⟩
def setV(st:WSt)(slot:Nat)(v:WV):WSt:=⟨st.rm,(slot,v)::st.m.filter (λp=>!Nat.beq p.1 slot),st.rL,st.L⟩
theorem De{n:Nat}{Ks:List Nat}{st:WSt}(hk:st.Ok){slot:Nat}{v v2:WV}(hn:jM st.m=true)(hl:look st.m slot=some v)(he:v2.exp=v.exp)(ho:v2.ok):EntW n Ks st (setV st slot v2)/\(setV st slot v2).Ok/\(setV st slot v2).rm=st.rm/\(setV st slot v2).rL=st.rL:=by
 have hM:qO st slot=some v:=by unfold qO;rw[hl]
 have h1: ∀q u,qO (setV st slot v2) q=some u->(q=slot/\u=v2)\/qO st q=some u:=by
  intro q u h;unfold qO setV at h;simp only[look]at h;by_cases e:slot=q
  .subst e;simp at h;exact .inl ⟨rfl,h.symm⟩
  .rw[js e]at h;simp only[cond_false]at h
   refine .inr ?_;unfold qO
   cases hf:look (st.m.filter (λp=>!Nat.beq p.1 slot)) q with
   |some y=>rw[hf]at h;rw[(ww hn hf).1];exact h
   |none=>rw[hf]at h;simp only at h;rw[hk.dm q (by rw[h];simp)];exact h
 refine⟨N4 (λq v' h=>?_) (λk b' h=>⟨b',h,λ_ _ _ h=>h⟩),⟨λq u h=>?_,λk b h=>hk.l k b h,λq hq=>?_,λk hk'=>hk.dl k hk'⟩,rfl,rfl⟩
 .rcases h1 q v' h with⟨rfl,rfl⟩|h
  .exact⟨_,hM,λ_ _ _ h=>he▸h⟩
  .exact⟨v',h,λ_ _ _ h=>h⟩
 .rcases h1 q u h with⟨rfl,rfl⟩|h
  .exact ho
  .exact hk.m q u h
 .show look ((slot,_)::st.m.filter (λp=>!Nat.beq p.1 slot)) q=none
  have hne:slot≠q:=λe=>by subst e;rw[hk.dm slot hq]at hl;cases hl
  simp only[look,js hne,cond_false];exact CW (hk.dm q hq)
def bdTo(slot:Nat)(b:Bd)(st:WSt):Option (List Prop×WSt):=
 match look st.m slot with
 |some (.c (.one (.dt t b' x)))=>bif jM st.m then some ([Bnd t b x],setV st slot (.c (.one (.dt t b x))))else none
 |some (.c (.agg [.dt t b' x]))=>bif jM st.m then some ([Bnd t b x],setV st slot (.c (.agg [.dt t b x])))else none
 |_=>none
theorem T6{n:Nat}{Ks:List Nat}{st st':WSt}(hk:st.Ok){slot:Nat}{b:Bd}{vc:List Prop}(h:bdTo slot b st=some (vc,st'))(hvc: ∀p∈vc,p):EntW n Ks st st'/\st'.Ok/\st'.rm=st.rm/\st'.rL=st.rL:=by
 unfold bdTo at h;split at h
 .rename_i t b' x hl
  cases hn:jM st.m with
  |false=>rw[hn]at h;cases h
  |true=>
   rw[hn]at h;simp only[cond_true,q61,q62]at h;obtain⟨rfl,rfl⟩:=h
   have h0:(WV.c (.one (.dt t b' x))).ok:=hk.m slot _ (by unfold qO;rw[hl]);exact De hk hn hl rfl ⟨hvc _ q5f,h0.2⟩
 .rename_i t b' x hl
  cases hn:jM st.m with
  |false=>rw[hn]at h;cases h
  |true=>
   rw[hn]at h;simp only[cond_true,q61,q62]at h;obtain⟨rfl,rfl⟩:=h
   exact De hk hn hl rfl (v8 (hvc _ q5f))
 .cases h
def Hl(Ks:List Nat)(A:PreOp)(st:WSt):Option (List Prop×WSt):=
 match A with
 | .ex X=>X.f Ks st
 | .frz k full ts=>match look st.L k with
  |some (.arr t b l)=>M2 Ks st k t b l full false ts
  |some (.gro t b l)=>M2 Ks st k t b l full true ts
  |_=>none
 | .ren slot K t b=>match renG slot K t b st with
  |some st'=>some ([],st')
  |none=>none
 | .drop ts=>bif jM st.m then some ([],Cp ts st)else none
 | .bd slot b=>bdTo slot b st
theorem ID{n:Nat}{Ks:List Nat}{st st':WSt}(hk:st.Ok){k:Nat}{t:Ty}{b:Bd}{l:List t.den}{full gr:Bool}{ts:List Nat}{vc:List Prop}(h:M2 Ks st k t b l full gr ts=some (vc,st'))(hvc: ∀p∈vc,p)
  (hL:(gr=false/\look st.L k=some (.arr t b l))\/(gr=true/\look st.L k=some (.gro t b l))):EntW n Ks st st'/\st'.Ok/\st'.rm=st.rm/\st'.rL=st.rL:=by
 unfold M2 at h
 cases hc:Rq Ks st k with
 |false=>rw[hc]at h;cases h
 |true=>
  rw[hc]at h;simp only[cond_true]at h
  unfold Rq at hc;simp only[q4L,List.all_eq_true]at hc;obtain⟨⟨⟨⟨⟨c0,c1⟩,c2⟩,c3⟩,c4⟩,c5⟩:=hc;split at h
  .rename_i m' v1 hm
   split at h
   .rename_i L' v2 hLL
    simp only[q61,q62]at h;obtain⟨rfl,rfl⟩:=h
    obtain⟨p1,p2⟩:=AllP.app hvc
    have hlk:qy st k=some (bif gr then .gro t b l else .arr t b l):=by
     unfold qy;rcases hL with⟨rfl,h⟩|⟨rfl,h⟩<;>rw[h]<;>rfl
    have hlb: ∀x∈l,Bnd t b x:=by
     have:=hk.l k _ hlk;cases gr<;>exact this
    have hmok: ∀p∈st.m,p.2.ok:=λp hp=>hk.m p.1 p.2 (by unfold qO;rw[wx c1 hp])
    have hLok: ∀p∈st.L,p.2.ok:=λp hp=>hk.l p.1 p.2 (by unfold qy;rw[wx c2 hp])
    have sm:=Jx hlb hm hmok p1;have sL:=KY hlb hLL hLok p2
    have hM: ∀t' v',qO ⟨st.rm,m',st.rL,L'⟩ t'=some v'-> ∃v,qO st t'=some v/\RelV k (jc t l) (gOf t gr) v.exp v'.exp/\v'.ok:=by
     intro t' v' hv;unfold qO at hv;simp only at hv
     cases hl:look m' t' with
     |some x=>
      rw[hl]at hv;simp at hv;subst hv
      obtain⟨p,hp,e,h1,h2⟩:=sm _ (j6 hl);have e':p.1=t':=e;exact⟨p.2,by unfold qO;rw[<-e',wx c1 hp],h1,h2⟩
     |none=>
      rw[hl]at hv;simp only at hv
      have h3:qO st t'=some v':=by unfold qO;rw[hk.dm t' (by rw[hv];simp)];exact hv
      exact⟨v',h3,QB,hk.m t' v' h3⟩
    have hB: ∀q b',qy ⟨st.rm,m',st.rL,L'⟩ q=some b'->q≠k/\ ∃b0,qy st q=some b0/\RelB k (jc t l) (gOf t gr) b0.exp b'.exp/\b'.ok:=by
     intro q b' hv;unfold qy at hv;simp only at hv
     cases hl:look L' q with
     |some x=>
      rw[hl]at hv;simp at hv;subst hv
      obtain⟨hne,p,hp,e,h1,h2⟩:=sL _ (j6 hl);have e':p.1=q:=e;exact⟨hne,p.2,by unfold qy;rw[<-e',wx c2 hp],h1,h2⟩
     |none=>
      rw[hl]at hv;simp only at hv
      have h3:qy st q=some b':=by unfold qy;rw[hk.dl q (by rw[hv];simp)];exact hv
      have h4:=c5 _ (j6 hv);simp only[q4L,q4N]at h4;exact⟨λe=>by subst e;simp at h4,b',h3,Qs,hk.l q b' h3⟩
    refine⟨?_,⟨λt' v' h=>(hM t' v' h).choose_spec.2.2,λq b' h=>(hB q b' h).2.choose_spec.2.2,?_,?_⟩,rfl,rfl⟩
    .refine Wu (k:=k) (cells:=jc t l) (g:=gOf t gr) c0 (λk0 hk0=>?_) ?_ ?_ ?_
     .rw[qW]
      obtain⟨x,hx⟩:=Option.isSome_iff_exists.1 (c3 k0 hk0);rw[hx];simp
     .rw[qW,hlk]
      cases gr with
      |false=>exact .inl ⟨rfl,by simp only[cond_false,q60,WB.exp,vC]⟩
      |true=>exact .inr ⟨t.w,rfl,by simp only[cond_true,q60,WB.exp,vC]⟩
     .intro t' av' hv
      rw[vi]at hv
      cases hl:qO ⟨st.rm,m',st.rL,L'⟩ t' with
      |none=>rw[hl]at hv;cases hv
      |some v'=>
       rw[hl]at hv;simp at hv;subst hv
       obtain⟨v,h1,h2,_⟩:=hM t' v' hl;exact⟨v.exp,by rw[vi,h1];rfl,h2⟩
     .intro q b' hv
      rw[qW]at hv
      cases hl:qy ⟨st.rm,m',st.rL,L'⟩ q with
      |none=>rw[hl]at hv;cases hv
      |some b1=>
       rw[hl]at hv;simp at hv;subst hv
       obtain⟨h0,b0,h1,h2,_⟩:=hB q b1 hl;exact⟨h0,b0.exp,by rw[qW,h1];rfl,h2⟩
    .intro t' ht'
     show look m' t'=none;refine jR.2 λq hq e=>?_
     obtain⟨p,hp,e',_⟩:=sm q hq;exact absurd e (λe=>(jR.1 (hk.dm t' ht')) p hp (e'.trans e))
    .intro q hq
     show look L' q=none;refine jR.2 λq' hq' e=>?_
     obtain⟨_,p,hp,e',_⟩:=sL q' hq';exact(jR.1 (hk.dl q hq)) p hp (e'.trans e)
   .cases h
  .cases h
theorem LH{n:Nat}{Ks:List Nat}{A:PreOp}{st st':WSt}(hk:st.Ok){vc:List Prop}(h:Hl Ks A st=some (vc,st'))(hvc: ∀p∈vc,p):EntW n Ks st st'/\st'.Ok/\st'.rm=st.rm/\st'.rL=st.rL:=by
 unfold Hl at h;split at h
 .rename_i X;exact X.h hk h hvc
 .split at h
  .rename_i hl;exact ID hk h hvc (.inl ⟨rfl,hl⟩)
  .rename_i hl;exact ID hk h hvc (.inr ⟨rfl,hl⟩)
  .cases h
 .split at h
  .rename_i s hs
   simp only[q61,q62]at h;obtain⟨rfl,rfl⟩:=h
   exact G0 hk hs
  .cases h
 .rename_i ts
  cases hn:jM st.m with
  |false=>rw[hn]at h;cases h
  |true=>
   rw[hn]at h;simp only[cond_true,q61,q62]at h;obtain⟨rfl,rfl⟩:=h
   exact P7 hk hn
 .exact T6 hk h hvc
section
structure HavX where
 t:Ty
 bnd:t.den->Prop
 ss:List Nat
 bs:List Nat
 gb:List Nat
 m:t.den->List (Nat×WV)
 L:t.den->List (Nat×WB)
 val:WSt->Option (List Prop×t.den)
 ren:WSt->Option WSt
 hm: ∀{x:t.den},bnd x-> ∀p∈m x,p.1∈ss/\p.2.ok
 hL: ∀{x:t.den},bnd x-> ∀p∈L x,p.1∈bs/\p.2.ok
 hval: ∀{st:WSt}{vc:List Prop}{x:t.den},st.Ok->val st=some (vc,x)->(∀p∈vc,p)->bnd x/\
  (∀p∈m x,look st.rm p.1=none/\ ∃v,qO st p.1=some v/\ ∀β H u,v.exp.sat β H u->p.2.exp.sat β H u)/\
  (∀p∈L x,look st.rL p.1=none/\ ∃b,qy st p.1=some b/\BImp p.1 b.exp p.2.exp)
 hren: ∀{n:Nat}{Ks:List Nat}{st st':WSt},st.Ok->ren st=some st'->EntW n Ks st st'/\st'.Ok/\st'.rm=st.rm/\st'.rL=st.rL
inductive Hav where
 |ex (X:HavX)
 |s (slot:Nat) (t:Ty) (b:Bd)
 |a (k:Nat) (t:Ty) (b:Bd)
 |bk (k:Nat) (t:Ty) (b:Bd)
 |r (k:Nat) (t:Ty) (b:Bd)
 |g (slot K:Nat) (t:Ty) (b:Bd) (nb:Nat)
def Hav.ty:Hav->Ty
 | .ex X=>X.t
 | .s _ t _=>t
 | .a _ t _=> .sl t
 | .bk _ t _=> .sl t
 | .r _ t _=>t
 | .g _ _ t _ _=> .sl t
def Hav.bnd:(h:Hav)->h.ty.den->Prop
 | .ex X,y=>X.bnd y
 | .s _ t b,x=>Bnd t b x
 | .a _ t b,l=> ∀x∈(show List t.den from l),Bnd t b x
 | .bk _ t b,l=> ∀x∈(show List t.den from l),Bnd t b x
 | .r _ t b,x=>Bnd t b x
 | .g _ _ t b nb,l=>List.length (show List t.den from l)<=nb/\ ∀x∈(show List t.den from l),Bnd t b x
@[reducible] def hden(hs:List Hav):Type:=dens (hs.map Hav.ty)
def HB:(hs:List Hav)->hden hs->Prop
 |[],_=>True
 |[h],x=>h.bnd x
 |h::g::r,x=>h.bnd x.1/\HB (g::r) x.2
def havV(st:WSt):(h:Hav)->Option (List Prop×h.ty.den)
 | .ex X=>X.val st
 | .s slot t b=>match look st.rm slot with
  |none=>match qO st slot with
   |some (.c x)=>bif beqB (BB x) t.agg then(match reify t x.cells with
    |some (b',v,[])=>some (bif b'.le b then[]else[Bnd t b v],v)
    |_=>none)else none
   |_=>none
  |some _=>none
 | .a k t b=>match look st.rL k with
  |none=>match look st.L k with
   |some (.arr t' b' l)=>if h:(Ty.sl t').beq (.sl t)=true then some (bif b'.le b then[]else[∀x∈va (t:= .sl t') (t':= .sl t) h l,Bnd t b x],va (t:= .sl t') (t':= .sl t) h l)else none
   |_=>none
  |some _=>none
 | .bk k t b=>match look st.rL k with
  |none=>match look st.L k with
   |some (.gro t' b' l)=>if h:(Ty.sl t').beq (.sl t)=true then some (bif b'.le b then[]else[∀x∈va (t:= .sl t') (t':= .sl t) h l,Bnd t b x],va (t:= .sl t') (t':= .sl t) h l)else none
   |_=>none
  |some _=>none
 | .r k t b=>match look st.rL k with
  |none=>match look st.L k with
   |some (.rig l)=>match reify t l with
    |some (b',v,[])=>some (bif b'.le b then[]else[Bnd t b v],v)
    |_=>none
   |_=>none
  |some _=>none
 | .g slot K t b nb=>match look st.rm slot,look st.rL K with
  |none,none=>match qO st slot,look st.L K with
   |some (.c (.one (.gs k n w nb'))),some (.gro t' b' l)=>if h:(Ty.sl t').beq (.sl t)=true then
     (bif Nat.beq k K&&Nat.beq w t.w then some ((n=l.length)::((bif Nat.ble nb' nb then[]else[n<=nb])++(bif b'.le b then[]else[∀x∈va (t:= .sl t') (t':= .sl t) h l,Bnd t b x])),va (t:= .sl t') (t':= .sl t) h l)else none)else none
   |_,_=>none
  |_,_=>none
def Ez(st:WSt):(hs:List Hav)->Option (List Prop×hden hs)
 |[]=>some ([],())
 |[h]=>havV st h
 |h::g::r=>match havV st h with
  |some (v,x)=>match Ez st (g::r)with
   |some (v',y)=>some (v++v',(x,y))
   |none=>none
  |none=>none
def hslot:Hav->List Nat
 | .ex X=>X.ss
 | .s slot _ _=>[slot]
 | .g slot _ _ _ _=>[slot]
 |_=>[]
def hblk:Hav->List Nat
 | .ex X=>X.bs
 | .a k _ _=>[k]
 | .bk k _ _=>[k]
 | .r k _ _=>[k]
 | .g _ K _ _ _=>[K]
 |_=>[]
def wn:(h:Hav)->h.ty.den->List (Nat×WV)
 | .ex X,y=>X.m y
 | .s slot t b,x=>[(slot,.c (mkC t b x))]
 | .g slot K t b nb,l=>[(slot,.c (.one (.gs K (List.length (show List t.den from l)) t.w nb)))]
 |_,_=>[]
def zD:(h:Hav)->h.ty.den->List (Nat×WB)
 | .ex X,y=>X.L y
 | .a k t b,l=>[(k,.arr t b l)]
 | .bk k t b,l=>[(k,.gro t b l)]
 | .r k t b,x=>[(k,.rig [.dt t b x])]
 | .g slot K t b nb,l=>[(K,.gro t b l)]
 |_,_=>[]
def BS:(hs:List Hav)->hden hs->List (Nat×WV)
 |[],_=>[]
 |[h],x=>wn h x
 |h::g::r,x=>wn h x.1++BS (g::r) x.2
def BR:(hs:List Hav)->hden hs->List (Nat×WB)
 |[],_=>[]
 |[h],x=>zD h x
 |h::g::r,x=>zD h x.1++BR (g::r) x.2
def zJ(hs:List Hav):List Nat:=hs.flatMap hslot
def wj(hs:List Hav):List Nat:=hs.flatMap hblk
theorem L2{st:WSt}(hk:st.Ok){h:Hav}{vc:List Prop}{x:h.ty.den}(e:havV st h=some (vc,x))(hvc: ∀p∈vc,p):
  h.bnd x/\(∀p∈wn h x,look st.rm p.1=none/\p.1∈hslot h/\p.2.ok/\ ∃v,qO st p.1=some v/\ ∀β H u,v.exp.sat β H u->p.2.exp.sat β H u)/\
  (∀p∈zD h x,look st.rL p.1=none/\p.1∈hblk h/\p.2.ok/\ ∃b,qy st p.1=some b/\BImp p.1 b.exp p.2.exp):=by
 cases h with
 |ex X=>
  obtain⟨h1,h2,h3⟩:=X.hval hk e hvc;exact⟨h1,λp hp=>⟨(h2 p hp).1,(X.hm h1 p hp).1,(X.hm h1 p hp).2,(h2 p hp).2⟩,λp hp=>⟨(h3 p hp).1,(X.hL h1 p hp).1,(X.hL h1 p hp).2,(h3 p hp).2⟩⟩
 |s slot t b=>
  change t.den at x;simp only[havV]at e;split at e
  .rename_i hrm
   split at e
   .rename_i y hy
    cases hb:beqB (BB y) t.agg with
    |false=>rw[hb]at e;cases e
    |true=>
     rw[hb]at e;simp only[cond_true]at e
     split at e
     .rename_i b' v hr
      simp only[q61,q62]at e;obtain⟨rfl,rfl⟩:=e
      have ha:CQ t (.c y)=some (b',x):=by unfold CQ;simp only[hb,cond_true,hr]
      obtain⟨i1,i2⟩:=Eb ha (hk.m slot _ hy)
      have hbn:Bnd t b x:=by
       cases hle:b'.le b with
       |true=>exact Bnd.mono hle i2
       |false=>rw[hle]at hvc;exact hvc _ q5f
      refine⟨hbn,λp hp=>?_,λp hp=>by simp[zD]at hp⟩;simp only[wn,q5j]at hp;subst hp
      exact⟨hrm,q5f,IS hbn,_,hy,by rw[show(slot,WV.c (mkC t b x)).2.exp=argC t x from K9 t b x];exact i1⟩
     .cases e
   .cases e
  .cases e
 |a k t b=>
  simp only[havV]at e;split at e
  .rename_i hrL
   split at e
   .rename_i t' b' l hl
    split at e
    .rename_i hb
     have:=Ty.beq_eq hb;cases this;simp only[q61,q62]at e;obtain⟨rfl,rfl⟩:=e
     have hl2:qy st k=some (.arr t b' l):=by unfold qy;rw[hl]
     have hbn: ∀x∈l,Bnd t b x:=by
      cases hle:b'.le b with
      |true=>exact λx hx=>Bnd.mono hle ((hk.l k _ hl2) x hx)
      |false=>rw[hle]at hvc;exact hvc (∀x∈l,Bnd t b x) q5f
     refine⟨hbn,λp hp=>by simp[wn]at hp,λp hp=>?_⟩;simp only[zD,q5j]at hp;subst hp
     exact⟨hrL,q5f,hbn,_,hl2,λ_ _ _ h=>h⟩
    .cases e
   .cases e
  .cases e
 |bk k t b=>
  simp only[havV]at e;split at e
  .rename_i hrL
   split at e
   .rename_i t' b' l hl
    split at e
    .rename_i hb
     have:=Ty.beq_eq hb;cases this;simp only[q61,q62]at e;obtain⟨rfl,rfl⟩:=e
     have hl2:qy st k=some (.gro t b' l):=by unfold qy;rw[hl]
     have hbn: ∀x∈l,Bnd t b x:=by
      cases hle:b'.le b with
      |true=>exact λx hx=>Bnd.mono hle ((hk.l k _ hl2) x hx)
      |false=>rw[hle]at hvc;exact hvc (∀x∈l,Bnd t b x) q5f
     refine⟨hbn,λp hp=>by simp[wn]at hp,λp hp=>?_⟩;simp only[zD,q5j]at hp;subst hp
     exact⟨hrL,q5f,hbn,_,hl2,λ_ _ _ h=>h⟩
    .cases e
   .cases e
  .cases e
 |r k t b=>
  change t.den at x;simp only[havV]at e;split at e
  .rename_i hrL
   split at e
   .rename_i l hl
    split at e
    .rename_i b' v hr
     simp only[q61,q62]at e;obtain⟨rfl,rfl⟩:=e
     have hl2:qy st k=some (.rig l):=by unfold qy;rw[hl]
     obtain⟨m,e1,i1,o1⟩:=z6 hr;have e1:WAs.exp l=m:=by rw[e1];simp[WAs.exp]
     subst e1
     have hbn:Bnd t b x:=by
      cases hle:b'.le b with
      |true=>exact Bnd.mono hle (o1 (hk.l k _ hl2)).1
      |false=>rw[hle]at hvc;exact hvc _ q5f
     refine⟨hbn,λp hp=>by simp[wn]at hp,λp hp=>?_⟩;simp only[zD,q5j]at hp;subst hp
     refine⟨hrL,q5f,v8 hbn,_,hl2,?_⟩;show BImp k (.rigid _) (.rigid (WAs.exp [.dt t b x]));rw[zW];exact wQ i1
    .cases e
   .cases e
  .cases e
 |g slot K t b nb=>
  simp only[havV]at e;split at e
  .rename_i hrm hrL
   split at e
   .rename_i k n w nb' t' b' l hs hl
    split at e
    .rename_i hb
     have:=Ty.beq_eq hb;cases this
     cases hc:Nat.beq k K&&Nat.beq w t.w with
     |false=>rw[hc]at e;cases e
     |true=>
      rw[hc]at e;simp only[cond_true,q61,q62]at e;obtain⟨rfl,rfl⟩:=e
      simp only[q4L]at hc;have h1:=q5w hc.1;have h2:=q5w hc.2;subst h1 h2;have hl2:qy st k=some (.gro t b' l):=by unfold qy;rw[hl]
      have hn:n=l.length:=hvc _ q5f;obtain⟨p1,p2⟩:=AllP.app (λp hp=>hvc p (q5e _ hp));have hok:n<=nb':=(hk.m slot _ hs).1
      have hnb:l.length<=nb:=by
       rw[<-hn]
       cases hle:Nat.ble nb' nb with
       |true=>have:=q5y hle;omega
       |false=>rw[hle]at p1;exact p1 (n<=nb) q5f
      have hbn: ∀x∈l,Bnd t b x:=by
       cases hle:b'.le b with
       |true=>exact λx hx=>Bnd.mono hle ((hk.l k _ hl2) x hx)
       |false=>rw[hle]at p2;exact p2 (∀x∈l,Bnd t b x) q5f
      refine⟨⟨hnb,hbn⟩,λp hp=>?_,λp hp=>?_⟩
      .simp only[wn,q5j]at hp;subst hp
       refine⟨hrm,q5f,⟨hnb,rfl⟩,_,hs,?_⟩;show∀β H u,(AV.c (.one (.gs k n))).sat β H u->(AV.c (.one (.gs k l.length))).sat β H u;rw[hn];exact λ_ _ _ h=>h
      .simp only[zD,q5j]at hp;subst hp
       exact⟨hrL,q5f,hbn,_,hl2,λ_ _ _ h=>h⟩
    .cases e
   .cases e
  .cases e
theorem II{st:WSt}(hk:st.Ok): ∀{hs:List Hav}{vc:List Prop}{x:hden hs},Ez st hs=some (vc,x)->(∀p∈vc,p)->
  HB hs x/\(∀p∈BS hs x,look st.rm p.1=none/\p.1∈zJ hs/\p.2.ok/\ ∃v,qO st p.1=some v/\ ∀β H u,v.exp.sat β H u->p.2.exp.sat β H u)/\
  (∀p∈BR hs x,look st.rL p.1=none/\p.1∈wj hs/\p.2.ok/\ ∃b,qy st p.1=some b/\BImp p.1 b.exp p.2.exp)
 |[],vc,x,e,hvc=>⟨trivial,λp hp=>by simp[BS]at hp,λp hp=>by simp[BR]at hp⟩
 |[h],vc,x,e,hvc=>by
  obtain⟨h1,h2,h3⟩:=L2 hk (h:=h) e hvc;refine⟨h1,λp hp=>?_,λp hp=>?_⟩
  .obtain⟨a,b,c⟩:=h2 p hp;exact⟨a,List.mem_flatMap.2 ⟨h,by simp,b⟩,c⟩
  .obtain⟨a,b,c⟩:=h3 p hp;exact⟨a,List.mem_flatMap.2 ⟨h,by simp,b⟩,c⟩
 |h::g::r,vc,x,e,hvc=>by
  simp only[Ez]at e
  cases h1:havV st h with
  |none=>rw[h1]at e;cases e
  |some q=>
   obtain⟨v,y⟩:=q;rw[h1]at e;simp only at e
   cases h2:Ez st (g::r)with
   |none=>rw[h2]at e;cases e
   |some q=>
    obtain⟨v',z⟩:=q;rw[h2]at e;simp only[q61,q62]at e;obtain⟨rfl,rfl⟩:=e
    obtain⟨p1,p2⟩:=AllP.app hvc;obtain⟨a1,a2,a3⟩:=L2 hk h1 p1;obtain⟨b1,b2,b3⟩:=II hk h2 p2;refine⟨⟨a1,b1⟩,λp hp=>?_,λp hp=>?_⟩
    .rcases q5c.1 hp with hp|hp
     .obtain⟨a,b,c⟩:=a2 p hp;exact⟨a,List.mem_flatMap.2 ⟨h,by simp,b⟩,c⟩
     .obtain⟨a,b,c⟩:=b2 p hp
      obtain⟨z,hz,hz2⟩:=List.mem_flatMap.1 b;exact⟨a,List.mem_flatMap.2 ⟨z,q5e _ hz,hz2⟩,c⟩
    .rcases q5c.1 hp with hp|hp
     .obtain⟨a,b,c⟩:=a3 p hp;exact⟨a,List.mem_flatMap.2 ⟨h,by simp,b⟩,c⟩
     .obtain⟨a,b,c⟩:=b3 p hp
      obtain⟨z,hz,hz2⟩:=List.mem_flatMap.1 b;exact⟨a,List.mem_flatMap.2 ⟨z,q5e _ hz,hz2⟩,c⟩
def AM:List Hav->WSt->Option WSt
 |[],st=>some st
 | .ex X::r,st=>match X.ren st with
  |some st'=>AM r st'
  |none=>none
 | .g slot K t b _::r,st=>match renG slot K t b st with
  |some st'=>AM r st'
  |none=>none
 |_::r,st=>AM r st
theorem za{n:Nat}{Ks:List Nat}: ∀{hs:List Hav}{st st':WSt},st.Ok->AM hs st=some st'->EntW n Ks st st'/\st'.Ok/\st'.rm=st.rm/\st'.rL=st.rL
 |[],st,st',hk,h=>by simp[AM]at h;subst h;exact⟨Ent.refl,hk,rfl,rfl⟩
 | .ex X::r,st,st',hk,h=>by
  simp only[AM]at h
  cases h1:X.ren st with
  |none=>rw[h1]at h;cases h
  |some s=>
   rw[h1]at h;simp only at h
   obtain⟨a1,a2,a3,a4⟩:=X.hren (n:=n) (Ks:=Ks) hk h1;obtain⟨b1,b2,b3,b4⟩:=za (n:=n) (Ks:=Ks) a2 h;exact⟨Ent.trans a1 b1,b2,b3.trans a3,b4.trans a4⟩
 | .g slot K t b nb::r,st,st',hk,h=>by
  simp only[AM]at h
  cases h1:renG slot K t b st with
  |none=>rw[h1]at h;cases h
  |some s=>
   rw[h1]at h;simp only at h
   obtain⟨a1,a2,a3,a4⟩:=G0 (n:=n) (Ks:=Ks) hk h1;obtain⟨b1,b2,b3,b4⟩:=za (n:=n) (Ks:=Ks) a2 h;exact⟨Ent.trans a1 b1,b2,b3.trans a3,b4.trans a4⟩
 | .s _ _ _::r,st,st',hk,h=>za (hs:=r) hk h
 | .a _ _ _::r,st,st',hk,h=>za (hs:=r) hk h
 | .bk _ _ _::r,st,st',hk,h=>za (hs:=r) hk h
 | .r _ _ _::r,st,st',hk,h=>za (hs:=r) hk h
def head(hs:List Hav)(x:hden hs)(rm:List (Nat×WV))(rL:List (Nat×WB)):WSt:=⟨rm,BS hs x,rL,BR hs x⟩
def XZ(hs:List Hav):List Nat:=hs.flatMap λh=>match h with| .ex X=>X.gb| .g _ K _ _ _=>[K]|_=>[]
def M7(W:List Nat)(hs:List Hav)(p:Nat×WV):Bool:=!vf p.1 W&&!vf p.1 (zJ hs)&&disj p.2.ids W&&disj p.2.ids (XZ hs)
def M6(W:List Nat)(hs:List Hav)(p:Nat×WB):Bool:=!vf p.1 W&&!vf p.1 (wj hs)&&disj p.2.ids W&&disj p.2.ids (XZ hs)
theorem L3{n:Nat}{Ks:List Nat}{st:WSt}(hk:st.Ok){hs:List Hav}{vc:List Prop}{x:hden hs}(e:Ez st hs=some (vc,x))(hvc: ∀p∈vc,p)
  {rm:List (Nat×WV)}{rL:List (Nat×WB)}(hrm: ∀t v,look rm t=some v->qO st t=some v)(hrL: ∀k b,look rL k=some b->qy st k=some b)
  (d1: ∀t∈zJ hs,look rm t=none)(d2: ∀k∈wj hs,look rL k=none):EntW n Ks st (head hs x rm rL)/\HB hs x:=by
 obtain⟨h1,h2,h3⟩:=II hk e hvc;refine⟨N4 (λt v' h=>?_) (λk b' h=>?_),h1⟩
 .unfold qO head at h
  simp only at h
  cases hl:look (BS hs x) t with
  |some y=>
   rw[hl]at h;simp at h;subst h
   exact(h2 _ (j6 hl)).2.2.2
  |none=>rw[hl]at h;exact⟨v',hrm t v' h,λ_ _ _ h=>h⟩
 .unfold qy head at h
  simp only at h
  cases hl:look (BR hs x) k with
  |some y=>
   rw[hl]at h;simp at h;subst h
   exact(h3 _ (j6 hl)).2.2.2
  |none=>rw[hl]at h;exact⟨b',hrL k b' h,λ_ _ _ h=>h⟩
theorem CY{h:Hav}{x:h.ty.den}(hb:h.bnd x): ∀p∈wn h x,p.1∈hslot h/\p.2.ok:=by
 intro p hp
 cases h with
 |ex X=>exact X.hm hb p hp
 |s slot t b=>simp only[wn,q5j]at hp;subst hp;exact⟨q5f,IS hb⟩
 |g slot K t b nb=>simp only[wn,q5j]at hp;subst hp;exact⟨q5f,hb.1,rfl⟩
 |_=>simp[wn]at hp
theorem CX{h:Hav}{x:h.ty.den}(hb:h.bnd x): ∀p∈zD h x,p.1∈hblk h/\p.2.ok:=by
 intro p hp
 cases h with
 |ex X=>exact X.hL hb p hp
 |a k t b=>simp only[zD,q5j]at hp;subst hp;exact⟨q5f,hb⟩
 |bk k t b=>simp only[zD,q5j]at hp;subst hp;exact⟨q5f,hb⟩
 |r k t b=>simp only[zD,q5j]at hp;subst hp;exact⟨q5f,v8 hb⟩
 |g slot K t b nb=>simp only[zD,q5j]at hp;subst hp;exact⟨q5f,hb.2⟩
 |_=>simp[zD]at hp
theorem Nk: ∀{hs:List Hav}{x:hden hs},HB hs x->(∀p∈BS hs x,p.1∈zJ hs/\p.2.ok)/\(∀p∈BR hs x,p.1∈wj hs/\p.2.ok)
 |[],x,h=>⟨λp hp=>by simp[BS]at hp,λp hp=>by simp[BR]at hp⟩
 |[h],x,hb=>⟨λp hp=>⟨List.mem_flatMap.2 ⟨h,by simp,(CY hb p hp).1⟩,(CY hb p hp).2⟩,λp hp=>⟨List.mem_flatMap.2 ⟨h,by simp,(CX hb p hp).1⟩,(CX hb p hp).2⟩⟩
 |h::g::r,x,hb=>by
  obtain⟨i1,i2⟩:=Nk (hs:=g::r) hb.2;refine⟨λp hp=>?_,λp hp=>?_⟩
  .rcases q5c.1 hp with hp|hp
   .exact⟨List.mem_flatMap.2 ⟨h,by simp,(CY hb.1 p hp).1⟩,(CY hb.1 p hp).2⟩
   .obtain⟨a,b⟩:=i1 p hp
    obtain⟨z,hz,hz2⟩:=List.mem_flatMap.1 a;exact⟨List.mem_flatMap.2 ⟨z,q5e _ hz,hz2⟩,b⟩
  .rcases q5c.1 hp with hp|hp
   .exact⟨List.mem_flatMap.2 ⟨h,by simp,(CX hb.1 p hp).1⟩,(CX hb.1 p hp).2⟩
   .obtain⟨a,b⟩:=i2 p hp
    obtain⟨z,hz,hz2⟩:=List.mem_flatMap.1 a;exact⟨List.mem_flatMap.2 ⟨z,q5e _ hz,hz2⟩,b⟩
theorem Zo{hs:List Hav}{x:hden hs}(hb:HB hs x){rm:List (Nat×WV)}{rL:List (Nat×WB)}(o1: ∀t v,look rm t=some v->v.ok)(o2: ∀k b,look rL k=some b->b.ok)
  (d1: ∀t∈zJ hs,look rm t=none)(d2: ∀k∈wj hs,look rL k=none):(head hs x rm rL).Ok:=by
 obtain⟨i1,i2⟩:=Nk hb;refine⟨λt v h=>?_,λk b h=>?_,λt ht=>?_,λk hk=>?_⟩
 .unfold qO head at h
  simp only at h
  cases hl:look (BS hs x) t with
  |some y=>rw[hl]at h;simp at h;subst h;exact(i1 _ (j6 hl)).2
  |none=>rw[hl]at h;exact o1 t v h
 .unfold qy head at h
  simp only at h
  cases hl:look (BR hs x) k with
  |some y=>rw[hl]at h;simp at h;subst h;exact(i2 _ (j6 hl)).2
  |none=>rw[hl]at h;exact o2 k b h
 .show look (BS hs x) t=none
  exact jR.2 λp hp e=>ht (e▸d1 _ (i1 p hp).1)
 .show look (BR hs x) k=none
  exact jR.2 λp hp e=>hk (e▸d2 _ (i2 p hp).1)
def cand:List Prop->Prop->Prop
 |[],Q=>Q
 |p::l,Q=>p/\cand l Q
theorem Am: ∀{l:List Prop}{Q:Prop},cand l Q->(∀p∈l,p)/\Q
 |[],Q,h=>⟨λp hp=>by simp at hp,h⟩
 |q::l,Q,h=>by
  obtain⟨h1,h2⟩:=Am (l:=l) h.2;refine⟨λp hp=>?_,h2⟩;rcases q5d.1 hp with rfl|hp
  .exact h.1
  .exact h1 p hp
def call:List Prop->Prop
 |[]=>True
 |[p]=>p
 |p::q::l=>p/\call (q::l)
theorem Hn: ∀{l:List Prop},call l-> ∀p∈l,p
 |[],_,p,hp=>by simp at hp
 |[q],h,p,hp=>by rw[q5j.1 hp];exact h
 |q::r::l,h,p,hp=>by
  rcases q5d.1 hp with rfl|hp
  .exact h.1
  .exact Hn h.2 p hp
def allD:(ts:List Ty)->(dens ts->Prop)->Prop
 |[],Q=>Q ()
 |[t],Q=> ∀x:t.den,Q x
 |t::u::r,Q=> ∀x:t.den,allD (u::r) λy=>Q (x,y)
theorem Mr: ∀{ts:List Ty}{Q:dens ts->Prop},allD ts Q-> ∀x,Q x
 |[],Q,h,()=>h
 |[t],Q,h,x=>h x
 |t::u::r,Q,h,x=>Mr (ts:=u::r) (h x.1) x.2
inductive Ann (P:Program) where
 |nil
 |h (r i:Nat) (H:Hint P) (k:Ann P)
 |pre (r:Nat) (A:PreOp) (k:Ann P)
 |cond (a b:Ann P)
 |dead
 |loop (hs:List Hav) (C:hden hs->Prop) (μ:hden hs->Nat) (body:hden hs->Ann P)
structure Cx (P:Program) where
 G:List (Nat×Hint P)
 n:Nat
 Ks:List Nat
abbrev Kont(P:Program):=Ann P->Exit->WSt->Prop
section
variable {P:Program}
def annL:Ann P->Ann P
 | .cond a _=>a
 |a=>a
def annR:Ann P->Ann P
 | .cond _ b=>b
 |a=>a
def dd:Ann P->Prop->Prop
 | .dead,_=>False
 |_,Q=>Q
theorem wu{a:Ann P}{Q:Prop}(h:dd a Q):Q:=by
 cases a<;>first|exact h|exact h.elim
def GT(r i:Nat):Ann P->Hint P×Ann P
 | .h r' i' H k=>bif Nat.beq r r'&&Nat.beq i i' then(H,k)else(.no,.h r' i' H k)
 |a=>(.no,a)
def wrun(cx:Cx P)(all:List Oper)(id:Nat):Nat->List Oper->Ann P->WSt->List PI->(Ann P->WSt->List PI->Prop)->Prop
 |_,[],ann,st,ps,k=>k ann st ps
 |i,o::r,ann,st,ps,k=>
  match GT id i ann with
  |(H,ann')=>match wstep cx.G cx.n all i o H st with
   | .bad=>False
   | .one vc p st'=>cand vc (wrun cx all id (i+1) r ann' st' (ps++[p]) k)
   | .two q p1 s1 p2 s2=>(q->dd (annL ann') (wrun cx all id (i+1) r (annL ann') s1 (ps++[p1]) k))/\(¬q->dd (annR ann') (wrun cx all id (i+1) r (annR ann') s2 (ps++[p2]) k))
def wpre(cx:Cx P)(id:Nat):Ann P->WSt->(Ann P->WSt->Prop)->Prop
 | .pre r A k,st,Q=>bif Nat.beq r id then(match Hl cx.Ks A st with
   |some (vc,st')=>cand vc (wpre cx id k st' Q)
   |none=>False)else Q (.pre r A k) st
 |a,st,Q=>Q a st
def N3(all:List Oper)(st0:WSt)(ps:List PI)(draw:Bool):Bool:=
 !draw||(okM all (masks 0 all [])&&okPl all.length (λi=>ps.getD i default) (masks 0 all [])&&ps.all λp=>p.nw.all (Fr st0 p.W))
def wtext(cx:Cx P)(all:List Oper)(id:Nat):Nat->List Oper->Ann P->WSt->(Ann P->WSt->Prop)->Prop
 |_,[],ann,st,k=>k ann st
 |i,o::r,ann,st,k=>wpre cx (1000000+1000*id+i) ann st λann st=>
  match GT id i ann with
  |(H,ann')=>match wstep cx.G cx.n all i o H st with
   | .bad=>False
   | .one vc p st'=>cand vc (wtext cx all id (i+1) r ann' st' k)
   | .two q p1 s1 p2 s2=>(q->dd (annL ann') (wtext cx all id (i+1) r (annL ann') s1 k))/\(¬q->dd (annR ann') (wtext cx all id (i+1) r (annR ann') s2 k))
def wregion(cx:Cx P)(id:Nat)(ops:Array Oper)(draw:Bool)(ann:Ann P)(st:WSt)(Φ:Kont P):Prop:=
 wpre cx id ann st λann st=>match draw with
  |false=>wtext cx ops.toList id 0 ops.toList ann st λann' st'=>Φ ann' .normal st'
  |true=>wrun cx ops.toList id 0 ops.toList ann st [] λann' st' ps=>bif N3 ops.toList st ps true then cand (altV (masks 0 ops.toList []) 0 ps) (Φ ann' .normal st')else False
def wrs:Code->List Nat
 | .region _ ops _=>ops.toList.filterMap (·.dst)
 | .seq a b=>wrs a++wrs b
 | .cond _ a b=>wrs a++wrs b
 | .block _ c=>wrs c
 | .loop c=>wrs c
 |_=>[]
def rnds(f:Ann P->WSt->Kont P->Prop):Nat->Ann P->WSt->Kont P->Prop
 |0,_,_,_=>False
 |k+1,ann,st,Φ=>f ann st λann' e st'=>match e with
  | .normal=>rnds f k ann' st' Φ
  |e=>Φ ann' e st'
def leave(km:List (Nat×WV))(kl:List (Nat×WB))(rm:List (Nat×WV))(rL:List (Nat×WB))(st:WSt):WSt:=⟨rm,st.m++km,rL,st.L++kl⟩
def wloop(cx:Cx P)(W:List Nat)(f:Ann P->WSt->Kont P->Prop)(hs:List Hav)(C:hden hs->Prop)(μ:hden hs->Nat)(body:hden hs->Ann P)(st:WSt)(Φ:Kont P):Prop:=
 match AM hs st with
 |none=>False
 |some st1=>bif jM st1.m&&jM st1.L&&(zJ hs).all (λt=>(look st1.rm t).isNone)&&(wj hs).all (λk=>(look st1.rL k).isNone)then
  (match Ez st1 hs with
  |none=>False
  |some (vc,x0)=>cand vc (C x0/\allD (hs.map Hav.ty) λx=>HB hs x->C x->
    f (body x) (head hs x (st1.m.filter (M7 W hs)++st1.rm) (st1.L.filter (M6 W hs)++st1.rL)) λann' e st'=>match e with
     | .normal=>match AM hs st' with
      |none=>False
      |some st2=>match Ez st2 hs with
       |none=>False
       |some (vc',x1)=>cand vc' (C x1/\μ x1<μ x)
     |e=>Φ ann' e (leave (st1.m.filter (M7 W hs)) (st1.L.filter (M6 W hs)) st1.rm st1.rL st')))else False
def wp(cx:Cx P):Code->Ann P->WSt->Kont P->Prop
 | .skip,ann,st,Φ=>Φ ann .normal st
 | .region id ops draw,ann,st,Φ=>wregion cx id ops draw ann st Φ
 | .seq a b,ann,st,Φ=>wp cx a ann st λann' e st'=>match e with
  | .normal=>wp cx b ann' st' Φ
  |e=>Φ ann' e st'
 | .cond c x y,ann,st,Φ=>match CV st c with
  |some (.c (.one (.vl (.bool b))))=>(match b with|true=>wp cx x ann st Φ|false=>wp cx y ann st Φ)
  |some (.c (.one (.pp q _)))=>(q->dd (annL ann) (wp cx x (annL ann) st Φ))/\(¬q->dd (annR ann) (wp cx y (annR ann) st Φ))
  |some (.c (.one (.dt .bool _ b)))=>(b=true->dd (annL ann) (wp cx x (annL ann) st Φ))/\(¬b=true->dd (annR ann) (wp cx y (annR ann) st Φ))
  |some (.c (.one (.bq C)))=>(C->dd (annL ann) (wp cx x (annL ann) st Φ))/\dd (annR ann) (wp cx y (annR ann) st Φ)
  |_=>False
 | .block id c,ann,st,Φ=>wp cx c ann st λann' e st'=>match e with
  | .exit id'=>bif Nat.beq id' id then Φ ann' .normal st' else Φ ann' (.exit id') st'
  |e=>Φ ann' e st'
 | .loop c,ann,st,Φ=>match ann with
  | .loop hs C μ body=>wloop cx (wrs c) (wp cx c) hs C μ body st Φ
  |ann=>rnds (wp cx c) 1000 ann st Φ
 | .exit id,ann,st,Φ=>Φ ann (.exit id) st
 | .ret,ann,st,Φ=>Φ ann .ret st
 | .label _,ann,st,Φ=>Φ ann .normal st
 |_,_,_,_=>False
def Post(cx:Cx P)(st:WSt)(Φ:Kont P)(E:Env):Exit->Act->World->Prop:=λe a w=>
 ∃ann st' H β,Φ ann e st'/\st'.Ok/\st'.rm=st.rm/\st'.rL=st.rL/\RepF E (qt st'.toA) a w H β
def Snd(cx:Cx P)(c:Code)(f:Ann P->WSt->Kont P->Prop):Prop:=
 ∀ann st Φ,f ann st Φ->st.Ok-> ∀E:Env,E.n=cx.n->E.Ks=cx.Ks-> ∀a w H β,RepF E (qt st.toA) a w H β->c.wp P (Post cx st Φ E) a w
theorem BJ{cx:Cx P}{id:Nat}: ∀{ann:Ann P}{st:WSt}{Q:Ann P->WSt->Prop},wpre cx id ann st Q->st.Ok-> ∃ann' st',Q ann' st'/\st'.Ok/\EntW cx.n cx.Ks st st'/\st'.rm=st.rm/\st'.rL=st.rL:=by
 intro ann
 induction ann with
 |pre r A k ih=>
  intro st Q h hk;simp only[wpre]at h
  cases hb:Nat.beq r id with
  |false=>rw[hb]at h;exact⟨_,_,h,hk,Ent.refl,rfl,rfl⟩
  |true=>
   rw[hb]at h;simp only[cond_true]at h
   split at h
   .rename_i vc st' ha
    obtain⟨h1,h2⟩:=Am h;obtain⟨a1,a2,a3,a4⟩:=LH (n:=cx.n) hk ha h1;obtain⟨ann',st'',q1,q2,q3,q4,q5⟩:=ih h2 a2;exact⟨ann',st'',q1,q2,Ent.trans a1 q3,q4.trans a3,q5.trans a4⟩
   .exact h.elim
 |nil=>exact λh hk=>⟨_,_,h,hk,Ent.refl,rfl,rfl⟩
 |h r i H k ih=>exact λh hk=>⟨_,_,h,hk,Ent.refl,rfl,rfl⟩
 |cond a b iha ihb=>exact λh hk=>⟨_,_,h,hk,Ent.refl,rfl,rfl⟩
 |dead=>exact λh hk=>⟨_,_,h,hk,Ent.refl,rfl,rfl⟩
 |loop hs C μ body ih=>exact λh hk=>⟨_,_,h,hk,Ent.refl,rfl,rfl⟩
theorem Do{cx:Cx P}{all:List Oper}{id:Nat}{ops:Array Oper}(hall:ops.toList=all){E:Env}(hn:E.n=cx.n){st0:WSt}: ∀(rest:List Oper)(i:Nat)(ann:Ann P)(st:WSt)(ps:List PI)(k:Ann P->WSt->List PI->Prop),
  (∀j,rest[j]?=ops[i+j]?)->wrun cx all id i rest ann st ps k->ps.length=i->Chain P E ops st0 ps st->st.Ok->st.rm=st0.rm->st.rL=st0.rL->
  ∃ann' st' ps',k ann' st' ps'/\ps'.length=i+rest.length/\Chain P E ops st0 ps' st'/\st'.Ok/\st'.rm=st0.rm/\st'.rL=st0.rL
 |[],i,ann,st,ps,k,_,h,hl,hc,hk,e1,e2=>⟨ann,st,ps,h,by simp[hl],hc,hk,e1,e2⟩
 |o::r,i,ann,st,ps,k,hidx,h,hl,hc,hk,e1,e2=>by
  simp only[wrun]at h;have ho:ops[i]?=some o:=by have:=hidx 0;simpa using this.symm
  have hidx': ∀j,r[j]?=ops[i+1+j]?:=λj=>by have:=hidx (j+1);simpa[q5r,Nat.add_comm 1 j]using this
  have hs:=OT (P:=P) (G:=cx.G) (n:=cx.n) hall ho (h:=(GT id i ann).1) hk hn;have hlen:i+(o::r).length=i+1+r.length:=by simp;omega
  rw[hlen];generalize GT id i ann=z at h hs;obtain⟨Hh,ann1⟩:=z;simp only at h hs
  cases hw:wstep cx.G cx.n all i o Hh st with
  |bad=>rw[hw]at h;exact h.elim
  |one vc p st'=>
   rw[hw]at h hs;obtain⟨h1,h2⟩:=Am h;have hs:=hs h1;subst hl;exact Do hall hn r (ps.length+1) _ _ _ k hidx' h2 (by simp) (hc.snoc hs) hs.ok (hs.rm.trans e1) (hs.rL.trans e2)
  |two q p1 s1 p2 s2=>
   rw[hw]at h hs;subst hl;by_cases hq:q
   .have hs:=hs.1 hq
    exact Do hall hn r (ps.length+1) _ _ _ k hidx' (wu (h.1 hq)) (by simp) (hc.snoc hs) hs.ok (hs.rm.trans e1) (hs.rL.trans e2)
   .have hs:=hs.2 hq
    exact Do hall hn r (ps.length+1) _ _ _ k hidx' (wu (h.2 hq)) (by simp) (hc.snoc hs) hs.ok (hs.rm.trans e1) (hs.rL.trans e2)
theorem C0{cx:Cx P}{all:List Oper}{id:Nat}{ops:Array Oper}(hall:ops.toList=all){E:Env}(hn:E.n=cx.n)(hK:E.Ks=cx.Ks){st0:WSt}{Φ:Kont P}: ∀(rest:List Oper)(i:Nat)(ann:Ann P)(st:WSt),
  (∀j,rest[j]?=ops[i+j]?)->wtext cx all id i rest ann st (λan s=>Φ an .normal s)->st.Ok->st.rm=st0.rm->st.rL=st0.rL-> ∀a w H β,RepF E (qt st.toA) a w H β->wpOps P ops (Post cx st0 Φ E) (List.range' i rest.length) a w
 |[],i,ann,st,_,h,hk,e1,e2,a,w,H,β,hr=>⟨ann,st,H,β,h,hk,e1,e2,hr⟩
 |o::r,i,ann,st,hidx,h,hk,e1,e2,a,w,H,β,hr=>by
  simp only[wtext]at h;have ho:ops[i]?=some o:=by have:=hidx 0;simpa using this.symm
  have hidx': ∀j,r[j]?=ops[i+1+j]?:=λj=>by have:=hidx (j+1);simpa[q5r,Nat.add_comm 1 j]using this
  obtain⟨ann1,st1,h1,hk1,hent,f1,f2⟩:=BJ h hk;obtain⟨H1,β1,hr1⟩:=hent E hn hK a w H β hr;have hs:=OT (P:=P) (G:=cx.G) (n:=cx.n) hall ho (h:=(GT id i ann1).1) hk1 hn;generalize GT id i ann1=z at h1 hs;obtain⟨Hh,ann2⟩:=z;simp only at h1 hs;rw[q56,List.range'_succ,wpOps_cons]
  cases hw:wstep cx.G cx.n all i o Hh st1 with
  |bad=>rw[hw]at h1;exact h1.elim
  |one vc p st'=>
   rw[hw]at h1 hs;obtain⟨h2,h3⟩:=Am h1;have hs:=hs h2;refine hs.good _ (λ_ _=>rfl) hs.nw a w H1 β1 _ _ hr1 λa' w' H' β' hr'=>?_
   rw[<-hs.fs]at hr';exact C0 hall hn hK r (i+1) _ _ hidx' h3 hs.ok (hs.rm.trans (f1.trans e1)) (hs.rL.trans (f2.trans e2)) a' w' H' β' hr'
  |two q p1 s1 p2 s2=>
   rw[hw]at h1 hs;by_cases hq:q
   .have hs:=hs.1 hq
    refine hs.good _ (λ_ _=>rfl) hs.nw a w H1 β1 _ _ hr1 λa' w' H' β' hr'=>?_
    rw[<-hs.fs]at hr';exact C0 hall hn hK r (i+1) _ _ hidx' (wu (h1.1 hq)) hs.ok (hs.rm.trans (f1.trans e1)) (hs.rL.trans (f2.trans e2)) a' w' H' β' hr'
   .have hs:=hs.2 hq
    refine hs.good _ (λ_ _=>rfl) hs.nw a w H1 β1 _ _ hr1 λa' w' H' β' hr'=>?_
    rw[<-hs.fs]at hr';exact C0 hall hn hK r (i+1) _ _ hidx' (wu (h1.2 hq)) hs.ok (hs.rm.trans (f1.trans e1)) (hs.rL.trans (f2.trans e2)) a' w' H' β' hr'
theorem Sv(hm:P.follows .mixedOrders=true){cx:Cx P}{id:Nat}{ops:Array Oper}{draw:Bool}:Snd cx (.region id ops draw) (wregion cx id ops draw):=by
 intro ann st Φ h hk E hn hK a w H β hrep;obtain⟨ann1,st1,h1,hk1,hent,e1,e2⟩:=BJ h hk;obtain⟨H1,β1,hrep1⟩:=hent E hn hK a w H β hrep
 cases draw with
 |false=>
  refine wp_region ?_;have:=C0 (ops:=ops) (st0:=st) (Φ:=Φ) rfl hn hK ops.toList 0 ann1 st1 (λj=>by simp) h1 hk1 e1 e2 a w H1 β1 hrep1;rw[List.range_eq_range'];simpa using this
 |true=>
  obtain⟨ann2,st2,ps,h2,hlen,hc,hk2,e3,e4⟩:=Do (ops:=ops) rfl hn (st0:=st1) ops.toList 0 ann1 st1 [] _ (λj=>by simp) h1 rfl Chain.nil hk1 rfl rfl
  cases hd:N3 ops.toList st1 ps true with
  |false=>rw[hd]at h2;exact h2.elim
  |true=>
   rw[hd]at h2;simp only[cond_true]at h2
   obtain⟨hav,h2⟩:=Am h2;refine O8 hm hc (by simpa using hlen) ?_ ?_ hrep1
   .intro hdr
    unfold N3 at hd;simp only[Bool.not_true,Bool.false_or,q4L,List.all_eq_true]at hd;exact⟨hd.1.1,hd.1.2,hd.2,hav⟩
   .intro a' w' H' β' hr
    exact⟨ann2,st2,H',β',h2,hk2,e3.trans e1,e4.trans e2,hr⟩
theorem Xr{cx:Cx P}{c:Code}{f:Ann P->WSt->Kont P->Prop}(hf:Snd cx c f): ∀k:Nat,Snd cx (.loop c) (rnds f k):=by
 intro k ann st Φ h hk E hn hK a w H β hrep;refine wp_loop_rounds k ?_
 have key: ∀(k:Nat)(ann:Ann P)(st0 st:WSt)(a:Act)(w:World)(H:Heap)(β:Bm),rnds f k ann st Φ->st.Ok->st.rm=st0.rm->st.rL=st0.rL->RepF E (qt st.toA) a w H β->Code.rounds P c (Post cx st0 Φ E) k a w:=by
  intro k
  induction k with
  |zero=>intro ann st0 st a w H β h;exact h.elim
  |succ k ih=>
   intro ann st0 st a w H β h hk e1 e2 hrep;rw[rounds_succ];refine wp_mono (hf ann st _ h hk E hn hK a w H β hrep) ?_
   rintro e a' w' ⟨ann',st',H',β',hΦ,hk',r1,r2,hr⟩
   cases e with
   |normal=>exact ih ann' st0 st' a' w' H' β' hΦ hk' (r1.trans e1) (r2.trans e2) hr
   |_=>exact⟨ann',st',H',β',hΦ,hk',r1.trans e1,r2.trans e2,hr⟩
 exact key k ann st st a w H β h hk rfl rfl hrep
theorem EF{α:Type}{a b:List (Nat×α)}{t:Nat}{v:α}(h:look (a++b) t=some v):look a t=some v\/(look a t=none/\look b t=some v):=by
 rw[ve]at h
 cases hl:look a t with
 |some x=>rw[hl]at h;exact .inl h
 |none=>rw[hl]at h;exact .inr ⟨rfl,h⟩
theorem VR{cx:Cx P}{c:Code}{W:List Nat}{f:Ann P->WSt->Kont P->Prop}(hf:Snd cx c f){hs:List Hav}{C:hden hs->Prop}{μ:hden hs->Nat}{body:hden hs->Ann P}{st:WSt}{Φ:Kont P}
  (h:wloop cx W f hs C μ body st Φ)(hk:st.Ok){E:Env}(hn:E.n=cx.n)(hK:E.Ks=cx.Ks){a:Act}{w:World}{H:Heap}{β:Bm}(hrep:RepF E (qt st.toA) a w H β):(Code.loop c).wp P (Post cx st Φ E) a w:=by
 unfold wloop at h;split at h
 .exact h.elim
 .rename_i st1 hren
  obtain⟨ent1,hk1,r1,r2⟩:=za (n:=cx.n) (Ks:=cx.Ks) hk hren
  cases hc:jM st1.m&&jM st1.L&&(zJ hs).all (λt=>(look st1.rm t).isNone)&&(wj hs).all (λk=>(look st1.rL k).isNone)with
  |false=>rw[hc]at h;exact h.elim
  |true=>
   rw[hc]at h;simp only[cond_true]at h
   simp only[q4L,List.all_eq_true]at hc;obtain⟨⟨⟨c1,c2⟩,c3⟩,c4⟩:=hc;split at h
   .exact h.elim
   .rename_i vc x0 hv
    obtain⟨hvc,hC0,hround⟩:=Am h;have hround:=Mr hround;generalize hkm:st1.m.filter (M7 W hs)=km at hround;generalize hkl:st1.L.filter (M6 W hs)=kl at hround
    --the kept part
    have km1: ∀t v,look km t=some v->look st1.m t=some v/\t∉zJ hs:=by
     intro t v h;subst hkm;obtain⟨q1,q2⟩:=ww c1 h;simp only[M7,q4L,q4N]at q2;exact⟨q1,λhm=>by rw[wK.2 hm]at q2;exact absurd q2.1.1.2 (by simp)⟩
    have kl1: ∀t v,look kl t=some v->look st1.L t=some v/\t∉wj hs:=by
     intro t v h;subst hkl;obtain⟨q1,q2⟩:=ww c2 h;simp only[M6,q4L,q4N]at q2;exact⟨q1,λhm=>by rw[wK.2 hm]at q2;exact absurd q2.1.1.2 (by simp)⟩
    have hrm: ∀t v,look (km++st1.rm) t=some v->qO st1 t=some v:=by
     intro t v h;rcases EF h with h|⟨_,h⟩
     .unfold qO;rw[(km1 t v h).1]
     .unfold qO;rw[hk1.dm t (by rw[h];simp)];exact h
    have hrL: ∀t v,look (kl++st1.rL) t=some v->qy st1 t=some v:=by
     intro t v h;rcases EF h with h|⟨_,h⟩
     .unfold qy;rw[(kl1 t v h).1]
     .unfold qy;rw[hk1.dl t (by rw[h];simp)];exact h
    have d1: ∀t∈zJ hs,look (km++st1.rm) t=none:=by
     intro t ht
     cases hl:look (km++st1.rm) t with
     |none=>rfl
     |some v=>
      rcases EF hl with h|⟨_,h⟩
      .exact absurd ht (km1 t v h).2
      .have:=c3 t ht;rw[h]at this;cases this
    have d2: ∀t∈wj hs,look (kl++st1.rL) t=none:=by
     intro t ht
     cases hl:look (kl++st1.rL) t with
     |none=>rfl
     |some v=>
      rcases EF hl with h|⟨_,h⟩
      .exact absurd ht (kl1 t v h).2
      .have:=c4 t ht;rw[h]at this;cases this
    obtain⟨ent2,hb0⟩:=L3 (n:=cx.n) (Ks:=cx.Ks) hk1 hv hvc hrm hrL d1 d2;obtain⟨H1,β1,hrep1⟩:=Ent.trans ent1 ent2 E hn hK a w H β hrep;have hok: ∀x,HB hs x->(head hs x (km++st1.rm) (kl++st1.rL)).Ok:=λx hb=>Zo hb (λt v h=>hk1.m t v (hrm t v h)) (λk b h=>hk1.l k b (hrL k b h)) d1 d2
    refine wp_loop_ghost (λm a w=> ∃x H β,HB hs x/\C x/\μ x=m/\RepF E (qt (head hs x (km++st1.rm) (kl++st1.rL)).toA) a w H β) (μ x0) ⟨x0,H1,β1,hb0,hC0,rfl,hrep1⟩ ?_
    rintro m a w ⟨x,H,β,hbx,hCx,rfl,hr⟩
    refine wp_mono (hf _ _ _ (hround x hbx hCx) (hok x hbx) E hn hK a w H β hr) ?_
    rintro e a' w' ⟨ann',st',H',β',hΦ,hk',e1,e2,hr'⟩
    have e1:st'.rm=km++st1.rm:=e1;have e2:st'.rL=kl++st1.rL:=e2
    have hleave: ∀e',(Φ ann' e' (leave km kl st1.rm st1.rL st'))->Post cx st Φ E e' a' w':=by
     intro e' hΦ'
     have htoA:(leave km kl st1.rm st1.rL st').toA=st'.toA:=by
      unfold WSt.toA leave;simp only[e1,e2,q4R]
     have hlm: ∀t,qO (leave km kl st1.rm st1.rL st') t=qO st' t:=by
      intro t;unfold qO leave;simp only[ve,e1];cases look st'.m t<;>cases look km t<;>rfl
     have hll: ∀t,qy (leave km kl st1.rm st1.rL st') t=qy st' t:=by
      intro t;unfold qy leave;simp only[ve,e2];cases look st'.L t<;>cases look kl t<;>rfl
     refine⟨ann',_,H',β',hΦ',⟨λt v h=>hk'.m t v (by rw[<-hlm];exact h),λk b h=>hk'.l k b (by rw[<-hll];exact h),λt ht=>?_,λk hk''=>?_⟩,r1,r2,by rw[htoA];exact hr'⟩
     .have ht':look st1.rm t≠none:=ht
      show look (st'.m++km) t=none;have h1:=hk'.dm t (by rw[e1,ve];cases look km t<;>simp[ht']);rw[ve,h1];simp only
      cases hl:look km t with
      |none=>rfl
      |some v=>exact absurd (hk1.dm t ht') (by rw[(km1 t v hl).1];simp)
     .have ht':look st1.rL k≠none:=hk''
      show look (st'.L++kl) k=none;have h1:=hk'.dl k (by rw[e2,ve];cases look kl k<;>simp[ht']);rw[ve,h1];simp only
      cases hl:look kl k with
      |none=>rfl
      |some v=>exact absurd (hk1.dl k ht') (by rw[(kl1 k v hl).1];simp)
    cases e with
    |normal=>
     simp only at hΦ;split at hΦ
     .exact hΦ.elim
     .rename_i st2 hren2
      split at hΦ
      .exact hΦ.elim
      .rename_i vc' x1 hv2
       obtain⟨hvc2,hC1,hlt⟩:=Am hΦ;obtain⟨ent3,hk3,s1,s2⟩:=za (n:=cx.n) (Ks:=cx.Ks) hk' hren2
       have hrm2: ∀t v,look (km++st1.rm) t=some v->qO st2 t=some v:=by
        intro t v h;have h2:look st2.rm t=some v:=by rw[s1,e1];exact h
        unfold qO;rw[hk3.dm t (by rw[h2];simp)];exact h2
       have hrL2: ∀t v,look (kl++st1.rL) t=some v->qy st2 t=some v:=by
        intro t v h;have h2:look st2.rL t=some v:=by rw[s2,e2];exact h
        unfold qy;rw[hk3.dl t (by rw[h2];simp)];exact h2
       obtain⟨ent4,hb1⟩:=L3 (n:=cx.n) (Ks:=cx.Ks) hk3 hv2 hvc2 hrm2 hrL2 d1 d2;obtain⟨H2,β2,hrep2⟩:=Ent.trans ent3 ent4 E hn hK a' w' H' β' hr';exact⟨μ x1,hlt,x1,H2,β2,hb1,hC1,rfl,hrep2⟩
    |_=>exact hleave _ hΦ
theorem q3d(hm:P.follows .mixedOrders=true){cx:Cx P}: ∀c:Code,Snd cx c (wp cx c):=by
 intro c
 induction c with
 |skip=>exact λann st Φ h hk E hn hK a w H β hrep=>wp_skip ⟨ann,st,H,β,h,hk,rfl,rfl,hrep⟩
 |region id ops draw=>exact Sv hm
 |seq x y ihx ihy=>
  intro ann st Φ h hk E hn hK a w H β hrep;refine wp_seq (wp_mono (ihx ann st _ h hk E hn hK a w H β hrep) ?_)
  rintro e a' w' ⟨ann',st',H',β',hΦ,hk',r1,r2,hr⟩
  cases e with
  |normal=>
   refine wp_mono (ihy ann' st' Φ hΦ hk' E hn hK a' w' H' β' hr) ?_
   rintro e a'' w'' ⟨ann'',st'',H'',β'',hΦ',hk'',q1,q2,hr'⟩
   exact⟨ann'',st'',H'',β'',hΦ',hk'',q1.trans r1,q2.trans r2,hr'⟩
  |_=>exact⟨ann',st',H',β',hΦ,hk',r1,r2,hr⟩
 |cond t x y ihx ihy=>
  intro ann st Φ h hk E hn hK a w H β hrep
  have hev: ∀v,CV st t=some v->v.exp.sat β H (a.eval t):=by
   intro v hv;have:=(Iz hk hv).1;have h2:=CU hrep (xs:=[t]) (vs:=[v.exp]) (by simp only[Eo,this]) (λ_ _=>rfl) (t,v.exp) (by simp);exact h2
  simp only[wp]at h;split at h
  .rename_i b hb
   have:=(hev _ hb).1;have he:a.eval t= .bool b:=this
   cases b with
   |true=>exact wp_cond_split he (λ_=>ihx ann st Φ h hk E hn hK a w H β hrep) (λe=>by cases e)
   |false=>exact wp_cond_split he (λe=>by cases e) (λ_=>ihy ann st Φ h hk E hn hK a w H β hrep)
  .rename_i q i hb
   have he:a.eval t= .bool (@decide q i):=(hev _ hb).1;exact wp_cond_split he (λe=>ihx _ st Φ (wu (h.1 (of_decide_eq_true e))) hk E hn hK a w H β hrep) (λe=>ihy _ st Φ (wu (h.2 (of_decide_eq_false e))) hk E hn hK a w H β hrep)
  .rename_i bb b hb
   have he:a.eval t= .bool b:=(hev _ hb).1;exact wp_cond_split he (λe=>ihx _ st Φ (wu (h.1 e)) hk E hn hK a w H β hrep) (λe=>ihy _ st Φ (wu (h.2 (by rw[e];simp))) hk E hn hK a w H β hrep)
  .rename_i C hb
   obtain⟨b,he,hC⟩:=hev _ hb;exact wp_cond_split he (λe=>ihx _ st Φ (wu (h.1 (hC e))) hk E hn hK a w H β hrep) (λe=>ihy _ st Φ (wu h.2) hk E hn hK a w H β hrep)
  .exact h.elim
 |block id c ih=>
  intro ann st Φ h hk E hn hK a w H β hrep;refine wp_block (wp_mono (ih ann st _ h hk E hn hK a w H β hrep) ?_)
  rintro e a' w' ⟨ann',st',H',β',hΦ,hk',r1,r2,hr⟩
  cases e with
  |exit id'=>
   simp only[Exit.inBlock];simp only at hΦ;by_cases e:id'=id
   .subst e
    rw[show Nat.beq id' id'=true from Nat.beq_refl id']at hΦ;rw[if_pos rfl];exact⟨ann',st',H',β',hΦ,hk',r1,r2,hr⟩
   .rw[js e]at hΦ
    rw[if_neg e];exact⟨ann',st',H',β',hΦ,hk',r1,r2,hr⟩
  |_=>exact⟨ann',st',H',β',hΦ,hk',r1,r2,hr⟩
 |loop c ih=>
  intro ann st Φ h hk E hn hK a w H β hrep;simp only[wp]at h;split at h
  .exact VR ih h hk hn hK hrep
  .exact Xr ih 1000 _ st Φ h hk E hn hK a w H β hrep
 |exit id=>exact λann st Φ h hk E hn hK a w H β hrep=>wp_exit ⟨ann,st,H,β,h,hk,rfl,rfl,hrep⟩
 |ret=>exact λann st Φ h hk E hn hK a w H β hrep=>wp_ret ⟨ann,st,H,β,h,hk,rfl,rfl,hrep⟩
 |label l=>exact λann st Φ h hk E hn hK a w H β hrep=>wp_label ⟨ann,st,H,β,h,hk,rfl,rfl,hrep⟩
 |_=>exact λann st Φ h=>h.elim
end
end
section
section
variable {P:Program}
def resC(P:Program)(st:WSt):ResultVar->Option WC
 | .tmp t=>match qO st t with
  |some (.c x)=>some x
  |_=>none
 | .cell a t=>match qO st a with
  |some (.c (.one (.loc k off)))=>match qy st k with
   |some (.rig l)=>match qQ P t with
    |some (g,s)=>match carve l off s with
     |some (_,m,_)=>EL g m
     |none=>none
    |none=>none
   |_=>none
  |_=>none
def GO(P:Program)(st:WSt):List ResultVar->Option (List WC)
 |[]=>some []
 |r::rs=>match resC P st r with
  |some x=>match GO P st rs with
   |some l=>some (x::l)
   |none=>none
  |none=>none
def resV(P:Program)(st:WSt)(rs:List ResultVar):Option WV:=
 match GO P st rs with
 |some [x]=>some (.c x)
 |some l=>some (.tup l)
 |none=>none
theorem UL{st:WSt}(hk:st.Ok){r:ResultVar}{x:WC}(h:resC P st r=some x):DV P st.toA r=some x.exp/\x.ok:=by
 unfold resC at h;unfold DV;split at h
 .rename_i t
  split at h
  .rename_i y hy
   simp only[q61]at h;subst h
   simp only[vi,hy,q60,WV.exp];exact⟨trivial,hk.m t _ hy⟩
  .cases h
 .rename_i a t
  split at h
  .rename_i k off ha
   split at h
   .rename_i l hl
    split at h
    .rename_i g s hs
     split at h
     .rename_i p m q hc
      obtain⟨h1,h2⟩:=z7 hc;have hok:=((jq hc).2.2.2 (hk.l k _ hl)).2.1;refine⟨?_,NC h hok⟩;have hlka:look st.toA.m a=some (.c (.one (.loc k off))):=by rw[vi,ha];rfl
      have hlk:look st.toA.L k=some (.rigid (WAs.exp l)):=by rw[qW,hl];rfl
      have hac:Bw P (look st.toA.L) t (.c (.one (.loc k off)))=some (.c x.exp,[k],[]):=by
       simp only[Bw,hlk,hs]
       cases g with
       |true=>
        rw[FL h];have hble:Nat.ble (off+s) (WAs.exp l).length=true:=Nat.ble_eq_true_of_le h2;simp only[hble,cond_true,h1];rfl
       |false=>
        obtain⟨u,e1,e2,_⟩:=FM h;rw[e2]at h1;have:=Bu (t:=t) h1 h2;subst this;simp only[Ja h1,e1]
      simp only[hlka,hac]
     .cases h
    .cases h
   .cases h
  .cases h
theorem EV{st:WSt}(hk:st.Ok): ∀{rs:List ResultVar}{l:List WC},GO P st rs=some l->A1 P st.toA rs=some (l.map WC.exp)/\ ∀x∈l,x.ok
 |[],l,h=>by simp[GO]at h;subst h;exact⟨rfl,λx hx=>by simp at hx⟩
 |r::rs,l,h=>by
  simp only[GO]at h
  cases hx:resC P st r with
  |none=>rw[hx]at h;cases h
  |some x=>
   rw[hx]at h;simp only at h
   cases hl:GO P st rs with
   |none=>rw[hl]at h;cases h
   |some l'=>
    rw[hl]at h;simp at h;subst h
    obtain⟨h1,h2⟩:=UL hk hx;obtain⟨h3,h4⟩:=EV hk hl;refine⟨by simp only[A1,h1,h3];rfl,λy hy=>?_⟩;rcases q5d.1 hy with rfl|hy
    .exact h2
    .exact h4 y hy
theorem BG{st:WSt}(hk:st.Ok){rs:List ResultVar}{R:WV}(h:resV P st rs=some R):Bt P st.toA rs=some R.exp/\R.ok:=by
 unfold resV at h;unfold Bt;split at h
 .rename_i x hx
  simp only[q61]at h;subst h
  obtain⟨h1,h2⟩:=EV hk hx;rw[h1];exact⟨rfl,h2 x (by simp)⟩
 .rename_i l hne hx
  simp only[q61]at h;subst h
  obtain⟨h1,h2⟩:=EV hk hx;rw[h1];refine⟨?_,h2⟩
  match l,hne with
  |[],_=>rfl
  |[x],hne=>exact(hne x rfl).elim
  |_::_::_,_=>rfl
 .cases h
def cmpC:WC->WC->Option (List Prop)
 | .agg [.dt t _ x],y=>bif BB y then(match reify t y.cells with
  |some (_,x',[])=>some [x'=x]
  |_=>none)else none
 | .one (.dt t _ x),y=>bif BB y then none else(match reify t y.cells with
  |some (_,x',[])=>some [x'=x]
  |_=>none)
 | .one (.kn k z),.one a=>match a with
  | .kn k' z'=>bif kbeq k k'&&decide (z'=z)then some []else none
  |a=>match asZ a with
   |some (k',_,z')=>bif kbeq k' k then some [z'=z]else none
   |none=>none
 | .one (.vl u),.one (.vl u')=>bif veq u u' then some []else none
 | .one (.vl (.bool b)),.one (.pp q _)=>some [match b with|true=>q|false=> ¬q]
 | .one (.gs d n w _),.one (.gs d' n' w' _)=>bif Nat.beq d d'&&Nat.beq w w' then some [n'=n]else none
 |_,_=>none
theorem KK{x y:WC}{vc:List Prop}(h:cmpC x y=some vc)(hy:y.ok)(hx:x.ok)(hvc: ∀p∈vc,p):CImp y.exp x.exp:=by
 unfold cmpC at h;split at h
 .rename_i t b z
  cases hb:BB y with
  |false=>rw[hb]at h;cases h
  |true=>
   rw[hb]at h;simp only[cond_true]at h
   split at h
   .rename_i b' z' hr
    simp only[q61]at h;subst h
    have:z'=z:=hvc _ q5f;subst this;obtain⟨m,e1,i1,_⟩:=z6 hr;have e1:WAs.exp y.cells=m:=by rw[e1];simp[WAs.exp]
    subst e1
    cases y with
    |one a=>cases hb
    |agg l=>exact MN (by show AImps (WAs.exp l) (WAs.exp [.dt t b z']);rw[zW];exact i1)
   .cases h
 .rename_i t b z
  cases hb:BB y with
  |true=>rw[hb]at h;cases h
  |false=>
   rw[hb]at h;simp only[cond_false]at h
   split at h
   .rename_i b' z' hr
    simp only[q61]at h;subst h
    have:z'=z:=hvc _ q5f;subst this;obtain⟨m,e1,i1,_⟩:=z6 hr;have e1:WAs.exp y.cells=m:=by rw[e1];simp[WAs.exp]
    subst e1
    cases y with
    |agg l=>cases hb
    |one a=>
     have ha:WAs.exp (WC.one a).cells=[a.exp.headD (.val (.bool false))]:=by rw[<-WC.exp_cells hy];rfl
     rw[ha]at i1;have h2:(WA.dt t b z').exp=[(WA.dt t b z').exp.headD (.val (.bool false))]:=WA.exp_one hx.2;have h3:(WA.dt t b z').exp=ql t z':=rfl;rw[<-h3,h2]at i1;exact MO i1.1
   .cases h
 .rename_i k z a
  split at h
  .rename_i k' z'
   cases hc:kbeq k k'&&decide (z'=z)with
   |false=>rw[hc]at h;cases h
   |true=>
    simp only[q4L,decide_eq_true_eq]at hc;have:=vy hc.1;subst this
    have:=hc.2;subst this
    exact JH
  .split at h
   .rename_i k' b z' ha
    cases hc:kbeq k' k with
    |false=>rw[hc]at h;cases h
    |true=>
     have:=vy hc;subst this
     rw[hc]at h;simp only[cond_true,q61]at h;subst h
     have:z'=z:=hvc _ q5f;subst this;refine XU ?_;simp only[WC.exp,(vD ha).1,List.headD_cons];rfl
   .cases h
 .rename_i u u'
  cases hc:veq u u' with
  |false=>rw[hc]at h;cases h
  |true=>have:=VI hc;subst this;exact JH
 .rename_i b q i
  simp only[q61]at h;subst h
  have h1:=hvc _ q5f;refine XU ?_;show Cmp.one (.val (.bool (@decide q i)))= .one (.val (.bool b))
  cases b with
  |true=>rw[show @decide q i=true from decide_eq_true h1]
  |false=>rw[show @decide q i=false from decide_eq_false h1]
 .rename_i d n w nb d' n' w' nb'
  cases hc:Nat.beq d d'&&Nat.beq w w' with
  |false=>rw[hc]at h;cases h
  |true=>
   simp only[q4L]at hc;have:=q5w hc.1;subst this
   rw[show(Nat.beq d d&&Nat.beq w w')=true by simp[hc.2]]at h;simp only[cond_true,q61]at h;subst h
   have:n'=n:=hvc _ q5f;subst this;exact JH
 .cases h
def Ej:List WC->List WC->Option (List Prop)
 |[],[]=>some []
 |x::r,y::s=>match cmpC x y with
  |some v=>match Ej r s with
   |some v'=>some (v++v')
   |none=>none
  |none=>none
 |_,_=>none
theorem Io: ∀{l l':List WC}{vc:List Prop},Ej l l'=some vc->(∀x∈l',x.ok)->(∀x∈l,x.ok)->(∀p∈vc,p)->CImps (l'.map WC.exp) (l.map WC.exp)
 |[],[],_,_,_,_,_=>trivial
 |x::r,y::s,vc,h,h1,h2,hvc=>by
  simp only[Ej]at h
  cases hc:cmpC x y with
  |none=>rw[hc]at h;cases h
  |some v=>
   rw[hc]at h;simp only at h
   cases hr:Ej r s with
   |none=>rw[hr]at h;cases h
   |some v'=>
    rw[hr]at h;simp only[q61]at h;subst h
    obtain⟨p1,p2⟩:=AllP.app hvc;exact⟨KK hc (h1 y q5f) (h2 x q5f) p1,Io hr (λz hz=>h1 z (q5e _ hz)) (λz hz=>h2 z (q5e _ hz)) p2⟩
 |[],_::_,_,h,_,_,_=>by simp[Ej]at h
 |_::_,[],_,h,_,_,_=>by simp[Ej]at h
def cmpV:WV->WV->Option (List Prop)
 | .c x,.c y=>cmpC x y
 | .tup l,.tup l'=>Ej l l'
 |_,_=>none
theorem Ti{x y:WV}{vc:List Prop}(h:cmpV x y=some vc)(hy:y.ok)(hx:x.ok)(hvc: ∀p∈vc,p): ∀β H v,y.exp.sat β H v->x.exp.sat β H v:=by
 unfold cmpV at h;split at h
 .exact IK (KK h hy hx hvc)
 .exact Zp (Io h hy hx hvc)
 .cases h
def retV(P:Program)(rs:List ResultVar)(R:WV)(st:WSt):Option (List Prop):=
 match resV P st rs with
 |some R'=>cmpV R R'
 |none=>none
def retW(P:Program)(rs:List ResultVar)(R:WV)(e:Exit)(st:WSt):Prop:=
 match e with
 | .normal=>(match retV P rs R st with|some vc=>call vc|none=>False)
 | .ret=>(match retV P rs R st with|some vc=>call vc|none=>False)
 |_=>False
theorem Lp{rs:List ResultVar}{R:WV}{st:WSt}(hk:st.Ok)(hR:R.ok){vc:List Prop}(h:retV P rs R st=some vc)(hvc: ∀p∈vc,p): ∃R',Bt P st.toA rs=some R'/\ ∀β H v,R'.sat β H v->R.exp.sat β H v:=by
 unfold retV at h;split at h
 .rename_i R' hR'
  obtain⟨h1,h2⟩:=BG hk hR';exact⟨_,h1,Ti h h2 hR hvc⟩
 .cases h
theorem Dc{rs:List ResultVar}{R:WV}{st:WSt}(hk:st.Ok)(hR:R.ok){e:Exit}(h:retW P rs R e st):(e= .normal\/e= .ret)/\ ∃R',Bt P st.toA rs=some R'/\ ∀β H v,R'.sat β H v->R.exp.sat β H v:=by
 cases e with
 |normal=>
  simp only[retW]at h;split at h
  .rename_i vc hvc;exact⟨.inl rfl,Lp hk hR hvc (Hn h)⟩
  .exact h.elim
 |ret=>
  simp only[retW]at h;split at h
  .rename_i vc hvc;exact⟨.inr rfl,Lp hk hR hvc (Hn h)⟩
  .exact h.elim
 |_=>exact h.elim
def zipW:Nat->List WV->List (Nat×WV)
 |_,[]=>[]
 |i,a::r=>(i,a)::zipW (i+1) r
theorem OZ: ∀(l:List WV)(i:Nat),(zipW i l).map (λp=>(p.1,p.2.exp))=Bk i (l.map WV.exp)
 |[],_=>rfl
 |a::r,i=>by simp only[zipW,q5b,Bk,OZ r]
theorem La: ∀{l:List WV}{i t:Nat}{v:WV},look (zipW i l) t=some v->v∈l
 |a::r,i,t,v,h=>by
  simp only[zipW,look]at h;by_cases e:i=t
  .subst e;simp at h;subst h;exact q5f
  .rw[js e]at h;exact q5e _ (La h)
 |[],_,_,_,h=>by simp[zipW,look]at h
def vp(vs:List WV)(L:List (Nat×WB)):WSt:=⟨[],zipW 0 vs,[],L⟩
theorem A2(vs:List WV)(L:List (Nat×WB)):(vp vs L).toA=wI (vs.map WV.exp) (L.map λp=>(p.1,p.2.exp)):=by
 unfold WSt.toA vp wI;simp only[List.append_nil,OZ]
theorem AF{vs:List WV}{L:List (Nat×WB)}(h: ∀v∈vs,v.ok)(hL: ∀p∈L,p.2.ok):(vp vs L).Ok:=by
 refine⟨λt v hv=>?_,λk b hb=>?_,λt ht=>absurd rfl ht,λk hk=>absurd rfl hk⟩
 .unfold qO vp at hv
  simp only at hv
  cases hl:look (zipW 0 vs) t with
  |some x=>rw[hl]at hv;simp at hv;subst hv;exact h _ (La hl)
  |none=>rw[hl]at hv;simp[look]at hv
 .unfold qy vp at hb
  simp only at hb
  cases hl:look L k with
  |some x=>rw[hl]at hb;simp at hb;subst hb;exact hL _ (j6 hl)
  |none=>rw[hl]at hb;simp[look]at hb
theorem GZ(hm:P.follows .mixedOrders=true){cx:Cx P}{c:Code}{ann:Ann P}{st:WSt}{Φ:Kont P}(h:wp cx c ann st Φ)(hk:st.Ok):Tr P cx.n cx.Ks c st.toA (λe s=> ∃ann st',s=st'.toA/\st'.Ok/\Φ ann e st'):=by
 intro E hn hK a w H β hr;refine wp_mono (q3d hm c ann st Φ h hk E hn hK a w H β hr) ?_
 rintro e a' w' ⟨ann',st',H',β',hΦ,hk',_,_,hr'⟩
 exact⟨st'.toA,H',β',⟨ann',st',rfl,hk',hΦ⟩,hr'⟩
theorem JW{R:WV}(h:R.ids=[])(k:Nat):R.exp.men k=false:=by
 cases hm:R.exp.men k with
 |false=>rfl
 |true=>have:=WV.men_ids hm;rw[h]at this;simp at this
structure Hold (p:Prop):Prop where
 h:p
theorem sigW(hm:P.follows .mixedOrders=true){f:FuncId}{fn:Func}{c:Code}{n:Nat}(hf:P.funcs[f]?=some fn)(hb:fn.body=some c)(hn:fn.ntmps=n)(hname:fn.name≠ "runtime.NumGoroutine")
  {G:List (Nat×Hint P)}{ts:List Ty}{bs:List Bd}{x:dens ts}{R:WV}(hx:Bnds ts bs x)(hlen:Nat.ble (jE ts bs x).length n=true)(hR:R.ids=[])(hRk:R.ok)(ann:Ann P)
  (hh:Hold (wp ⟨G,n,[]⟩ c ann (vp (jE ts bs x) []) (λan e st=>wpre ⟨G,n,[]⟩ 999999 an st λ_ st=>retW P fn.results.toList R e st))):Sig P f (argsE ts x) R.exp:=by
 have h:=hh.h;have hok:=Al hx;have ht:=GZ hm h (AF hok (λp hp=>by simp at hp));rw[A2]at ht;rw[<-wH ts bs x];refine Xv hf hb hn hname (by rw[q58];exact q5y hlen) (JW hR) ?_;intro E hn' hK a w H β hr;refine wp_mono (ht E hn' hK a w H β hr) ?_
 rintro e a' w' ⟨s,H',β',⟨ann',st0,rfl,hk0,hΨ⟩,hr0⟩
 obtain⟨_,st',hΦ,hk',he,_,_⟩:=BJ hΨ hk0;obtain⟨H',β',hr'⟩:=he E hn' hK a' w' H' β' hr0;obtain⟨h1,h2⟩:=Dc hk' hRk hΦ;exact⟨st'.toA,H',β',⟨h1,h2⟩,hr'⟩
def Jn(P:Program)(rs:List ResultVar)(R:WV)(k0:Nat)(t:Ty)(l:List t.den)(e:Exit)(st:WSt):Prop:=
 match qy st k0 with
 |some (.gro t' _ l')=>if h:(Ty.sl t').beq (.sl t)=true then va (t:= .sl t') (t':= .sl t) h l'=l/\retW P rs R e st else False
 |_=>False
def retO(P:Program)(rs:List ResultVar)(R:WV)(k0:Nat)(t:Ty)(l:List t.den)(e:Exit)(st:WSt):Prop:=
 match rs with
 |[.tmp r]=>match renG r k0 t .u st with
  |some st'=>Jn P rs R k0 t l e st'
  |none=>Jn P rs R k0 t l e st
 |_=>Jn P rs R k0 t l e st
theorem UM{P:Program}{n:Nat}{Ks:List Nat}{rs:List ResultVar}{R:WV}{k0:Nat}{t:Ty}{l:List t.den}{e:Exit}{st:WSt}(hk:st.Ok)(h:retO P rs R k0 t l e st): ∃st',EntW n Ks st st'/\st'.Ok/\Jn P rs R k0 t l e st':=by
 unfold retO at h;split at h
 .split at h
  .rename_i st' hr
   obtain⟨h1,h2,_⟩:=G0 (n:=n) (Ks:=Ks) hk hr;exact⟨st',h1,h2,h⟩
  .exact⟨st,Ent.refl,hk,h⟩
 .exact⟨st,Ent.refl,hk,h⟩
theorem sigO(hm:P.follows .mixedOrders=true){f:FuncId}{fn:Func}{c:Code}{n:Nat}(d:Nat)(hf:P.funcs[f]?=some fn)(hb:fn.body=some c)(hn:fn.ntmps=n)(hname:fn.name≠ "runtime.NumGoroutine")
  {G:List (Nat×Hint P)}{ts:List Ty}{bs:List Bd}{x:dens ts}{R:Nat->WV}(k0:Nat){t:Ty}{b:Bd}{l:List t.den}(hx:Bnds ts bs x)(hlen:Nat.ble (jE ts bs x).length n=true)(hRk: ∀k,(R k).ok)
  (hRρ: ∀(ρ:Nat->Nat) k,(R k).exp.map ρ=(R (ρ k)).exp)(hRi: ∀k,(R k).ids=[k])(ann:Ann P)
  (hh:Hold (wp ⟨G,n,[]⟩ c ann (vp (jE ts bs x) []) (λ_ e st=>retO P fn.results.toList (R k0) k0 t l e st))):SigG P f (argsE ts x) [] (R d).exp [(d,some (WB.gro t b l).exp)]:=by
 have h:=hh.h;have hok:=Al hx;have ht:=GZ hm h (AF hok (λp hp=>by simp at hp));rw[A2]at ht;rw[<-wH ts bs x];have hkn:qu [] [(d,some (Blk.grow t.w (qI t l)))]=[d]:=rfl;have hcm: ∀ρ:Nat->Nat,(qI t l).map (Atom.map ρ)=qI t l:=λρ=>by rw[vC];exact E2 ρ _
 refine Ce (λk=>if k=d then k0 else k) hf hb hn hname (by rw[q58];exact q5y hlen) (λp hp=>by simp at hp) (λp hp=>by simp at hp) (λp hp=>by simp at hp) (λp hp=>by simp at hp) ?_ ?_ ?_
 .intro k hk k' b' hb' hne
  have hk:k∈[d]:=hk;simp only[q5j,q62]at hk hb';exact absurd (hk.trans hb'.1.symm) hne
 .rintro k (hk|⟨k',b',hb',hm'⟩)
  .left
   have:=WV.men_ids hk;rw[hRi]at this;show k∈[d];exact this
  .simp only[q5j,q62,q61]at hb'
   obtain⟨rfl,rfl⟩:=hb';simp only[WB.exp,Blk.men,wG]at hm';cases hm'
 .intro E hn' hK a w H β hr
  refine wp_mono (ht E hn' hK a w H β hr) ?_
  rintro e a' w' ⟨s,H',β',⟨ann',st0,rfl,hk0,hΨ⟩,hr0⟩
  obtain⟨st',he,hk',hΦ⟩:=UM (n:=n) (Ks:=[]) hk0 hΨ;clear hΨ;obtain⟨H',β',hr'⟩:=he E hn' hK a' w' H' β' hr0;unfold Jn at hΦ;split at hΦ
  .rename_i t' b' l' hl
   split at hΦ
   .rename_i hbt
    have:=Ty.beq_eq hbt;cases this;obtain⟨h0,hΦ⟩:=hΦ;have h0:l'=l:=h0;subst h0;obtain⟨h1,R',h2,h3⟩:=Dc hk' (hRk k0) hΦ;refine⟨st'.toA,H',β',⟨h1,⟨R',h2,λβ H v hv=>?_⟩,?_⟩,hr'⟩
    .have hs:=h3 β H v hv
     refine(AV.sat_map (ρ:=λk=>if k=d then k0 else k) (β:=β) (H:=H) (a:=(R d).exp) (v:=v)).1 ?_;rw[hRρ];show(R (if d=d then k0 else d)).exp.sat β H v;rw[if_pos rfl];exact hs
    .intro k b1 hb1
     simp only[q5j,q62,q61]at hb1;obtain⟨rfl,rfl⟩:=hb1;refine⟨.grow t.w (qI t l'),by rw[show(if k=k then k0 else k)=k0 from if_pos rfl,qW,hl];rfl,?_⟩;intro β w H hh;have:=(Blk.rep_map (ρ:=λq=>if q=k then k0 else q) (β:=β) (w:=w) (H:=H) (k:=k) (x:= .grow t.w (qI t l'))).1 (by simp only[Blk.map,hcm,if_true];simpa using hh);exact this
   .exact hΦ.elim
  .exact hΦ.elim
def retB(P:Program)(rs:List ResultVar)(R:WV)(t:Ty)(s:t.den)(e:Exit)(st:WSt):Prop:=
 match qy st 100000 with
 |some (.rig l)=>match reify t l with
  |some (_,s',[])=>s'=s/\retW P rs R e st
  |_=>False
 |_=>False
theorem sigB(hm:P.follows .mixedOrders=true){f:FuncId}{fn:Func}{c:Code}{n:Nat}(hf:P.funcs[f]?=some fn)(hb:fn.body=some c)(hn:fn.ntmps=n)(hname:fn.name≠ "runtime.NumGoroutine")
  {G:List (Nat×Hint P)}{t:Ty}{tb:Bd}{s:t.den}{ts:List Ty}{bs:List Bd}{x:dens ts}{R:WV}{s':t.den}(hs:Bnd t tb s)(hx:Bnds ts bs x)(hlen:Nat.ble ((jE ts bs x).length+1) n=true)(hR:R.ids=[])(hRk:R.ok)(ann:Ann P)
  (hh:Hold (wp ⟨G,n,[100000]⟩ c ann (vp (.c (.one (.loc 100000 0))::jE ts bs x) [(100000,.rig [.dt t tb s])]) (λan e st=>wpre ⟨G,n,[100000]⟩ 999999 an st λ_ st=>retB P fn.results.toList R t s' e st))):
  SigG P f (.c (.one (.loc 100000 0))::argsE ts x) [(100000,.rigid (ql t s))] R.exp [(100000,some (.rigid (ql t s')))]:=by
 have h:=hh.h;have hok:=Al hx
 have ht:=GZ hm h (AF (λv hv=>by
  rcases q5d.1 hv with rfl|hv
  .exact⟨trivial,rfl⟩
  .exact hok v hv) (λp hp=>by simp only[q5j]at hp;subst hp;exact v8 hs))
 rw[A2]at ht;rw[<-wH ts bs x];have hexp:(WB.rig [.dt t tb s]).exp= .rigid (ql t s):=by show Blk.rigid (WAs.exp _)=_;rw[zW]
 have hst:([(100000,WB.rig [.dt t tb s])]:List (Nat×WB)).map (λp=>(p.1,p.2.exp))=[(100000,.rigid (ql t s))]:=by rw[q5b,List.map_nil,hexp]
 rw[hst]at ht;refine Ce (λk=>k) hf hb hn hname (by rw[q56,q58];exact q5y hlen) ?_ ?_ ?_ ?_ ?_ ?_ ?_
 .intro p hp;simp only[q5j]at hp;subst hp;exact q5B _
 .intro p hp;simp only[q5j]at hp;subst hp;exact⟨_,q5f⟩
 .intro p hp;simp only[q5j]at hp;subst hp;simp[look]
 .intro p hp;rfl
 .intro k hk k' b hb' hne;exact hne
 .rintro k (hk|⟨k',b,hb',hm'⟩)
  .rw[JW hR k]at hk;cases hk
  .simp only[q5j,q62,q61]at hb'
   obtain⟨rfl,rfl⟩:=hb';simp only[Blk.men,Ei]at hm';cases hm'
 .intro E hn' hK a w H β hr
  refine wp_mono (ht E hn' hK a w H β hr) ?_
  rintro e a' w' ⟨z,H',β',⟨ann',st0,rfl,hk0,hΨ⟩,hr0⟩
  obtain⟨_,st',hΦ,hk',he,_,_⟩:=BJ hΨ hk0;clear hΨ;obtain⟨H',β',hr'⟩:=he E hn' hK a' w' H' β' hr0;unfold retB at hΦ;split at hΦ
  .rename_i l hl
   split at hΦ
   .rename_i b' s1 hrf
    obtain⟨h0,hΦ⟩:=hΦ;subst h0;obtain⟨h1,R',h2,h3⟩:=Dc hk' hRk hΦ;obtain⟨m,e1,i1,_⟩:=z6 hrf;have e1:WAs.exp l=m:=by rw[e1];simp[WAs.exp]
    subst e1;refine⟨st'.toA,H',β',⟨h1,⟨R',h2,h3⟩,λk b hb'=>?_⟩,hr'⟩;simp only[q5j,q62,q61]at hb';obtain⟨rfl,rfl⟩:=hb';exact⟨.rigid (WAs.exp l),by rw[qW,hl];rfl,wQ i1⟩
   .exact hΦ.elim
  .exact hΦ.elim
def retS(P:Program)(rs:List ResultVar)(R:WV)(g:Bool)(t:Ty)(l:List t.den)(e:Exit)(st:WSt):Prop:=
 match qy st 100000 with
 |some B=>match blOf g t B with
  |some (_,l')=>l'=l/\retW P rs R e st
  |none=>False
 |none=>False
theorem sigS(hm:P.follows .mixedOrders=true){f:FuncId}{fn:Func}{c:Code}{n:Nat}(hf:P.funcs[f]?=some fn)(hb:fn.body=some c)(hn:fn.ntmps=n)(hname:fn.name≠ "runtime.NumGoroutine")
  {G:List (Nat×Hint P)}{g:Bool}{t:Ty}{eb:Bd}{l l':List t.den}{lo m cap nb:Nat}{ts:List Ty}{bs:List Bd}{x:dens ts}{R:WV}(hs: ∀u∈l,Bnd t eb u)(hmc:m<=cap)(hmb:m<=nb)(hx:Bnds ts bs x)(hlen:Nat.ble ((jE ts bs x).length+1) n=true)(hR:R.ids.all (Nat.beq 100000)=true)(hRk:R.ok)(ann:Ann P)
  (hh:Hold (wp ⟨G,n,[100000]⟩ c ann (vp (.c (.one (mkS g t 100000 lo m cap nb))::jE ts bs x) [(100000,mkB g t eb l)]) (λan e st=>wpre ⟨G,n,[100000]⟩ 999999 an st λ_ st=>retS P fn.results.toList R g t l' e st))):
  SigG P f (.c (.one (sA g t.w 100000 lo m cap))::argsE ts x) [(100000,sB g t l)] R.exp [(100000,some (sB g t l'))]:=by
 have h:=hh.h;have hok:=Al hx
 have ht:=GZ hm h (AF (λv hv=>by
  rcases q5d.1 hv with rfl|hv
  .cases g
   .exact⟨⟨hmc,hmb⟩,rfl⟩
   .exact⟨hmb,rfl⟩
  .exact hok v hv) (λp hp=>by simp only[q5j]at hp;subst hp;exact Uh hs))
 rw[A2]at ht;rw[<-wH ts bs x];have hst:([(100000,mkB g t eb l)]:List (Nat×WB)).map (λp=>(p.1,p.2.exp))=[(100000,sB g t l)]:=by rw[q5b,List.map_nil,Q9]
 have hv1:(WV.c (.one (mkS g t 100000 lo m cap nb))).exp= .c (.one (sA g t.w 100000 lo m cap)):=by cases g<;>rfl
 rw[hst,q5b,hv1]at ht;refine Ce (λk=>k) hf hb hn hname (by rw[q56,q58];exact q5y hlen) ?_ ?_ ?_ ?_ ?_ ?_ ?_
 .intro p hp;simp only[q5j]at hp;subst hp;exact q5B _
 .intro p hp;simp only[q5j]at hp;subst hp;exact⟨_,q5f⟩
 .intro p hp;simp only[q5j]at hp;subst hp;simp[look]
 .intro p hp;rfl
 .intro k hk k' b hb' hne;exact hne
 .rintro k (hk|⟨k',b,hb',hm'⟩)
  .have:=List.all_eq_true.1 hR _ (WV.men_ids hk)
   have:=q5w this;subst this;right;simp[look]
  .simp only[q5j,q62,q61]at hb'
   obtain⟨rfl,rfl⟩:=hb'
   have:(sB g t l').men k=false:=by
    unfold sB;cases g<;>exact wG _ _ _
   rw[this]at hm';cases hm'
 .intro E hn' hK a w H β hr
  refine wp_mono (ht E hn' hK a w H β hr) ?_
  rintro e a' w' ⟨z,H',β',⟨ann',st0,rfl,hk0,hΨ⟩,hr0⟩
  obtain⟨_,st',hΦ,hk',he,_,_⟩:=BJ hΨ hk0;clear hΨ;obtain⟨H',β',hr'⟩:=he E hn' hK a' w' H' β' hr0;unfold retS at hΦ;split at hΦ
  .rename_i B hl
   split at hΦ
   .rename_i b' l1 hB
    obtain⟨h0,hΦ⟩:=hΦ;subst h0;obtain⟨h1,R',h2,h3⟩:=Dc hk' hRk hΦ;refine⟨st'.toA,H',β',⟨h1,⟨R',h2,h3⟩,λk b hb'=>?_⟩,hr'⟩;simp only[q5j,q62,q61]at hb';obtain⟨rfl,rfl⟩:=hb';refine⟨sB g t l1,by rw[qW,hl];exact congrArg some (KH hB).1,λ_ _ _ h=>h⟩
   .exact hΦ.elim
  .exact hΦ.elim
theorem kcast{p q:Prop}(h:p=q)(x:p):Hold q:=⟨h▸x⟩
theorem I{p q:Prop}(a:p)(b:q):p/\q:=⟨a,b⟩
theorem Sp(q:Prop){a:q->Prop}{b: ¬q->Prop}(f: ∀h,a h)(g: ∀h,b h):(∀h,a h)/\ ∀h,b h:=⟨f,g⟩
end
end
section
section
variable {P:Program}
def Jl(P:Program)(rs:List ResultVar)(k0:Nat)(e:Exit)(st:WSt):Prop:=
 match e with
 | .normal=>(match resV P st rs with|some (.c (.one (.loc k 0)))=>k=k0|_=>False)
 | .ret=>(match resV P st rs with|some (.c (.one (.loc k 0)))=>k=k0|_=>False)
 |_=>False
theorem Pf{rs:List ResultVar}{k0:Nat}{st:WSt}(hk:st.Ok){e:Exit}(h:Jl P rs k0 e st):(e= .normal\/e= .ret)/\Bt P st.toA rs=some (WV.c (.one (.loc k0 0))).exp:=by
 cases e with
 |normal=>
  simp only[Jl]at h;split at h
  .rename_i k hR;subst h;exact⟨.inl rfl,(BG hk hR).1⟩
  .exact h.elim
 |ret=>
  simp only[Jl]at h;split at h
  .rename_i k hR;subst h;exact⟨.inr rfl,(BG hk hR).1⟩
  .exact h.elim
 |_=>exact h.elim
def retP(P:Program)(rs:List ResultVar)(k0:Nat)(t:Ty)(s:t.den)(e:Exit)(st:WSt):Prop:=
 match qy st k0 with
 |some (.rig l)=>match reify t l with
  |some (_,s',[])=>s'=s/\Jl P rs k0 e st
  |_=>False
 |_=>False
theorem sigP(hm:P.follows .mixedOrders=true){f:FuncId}{fn:Func}{c:Code}{n:Nat}(d:Nat)(hf:P.funcs[f]?=some fn)(hb:fn.body=some c)(hn:fn.ntmps=n)(hname:fn.name≠ "runtime.NumGoroutine")
  {G:List (Nat×Hint P)}{ts:List Ty}{bs:List Bd}{x:dens ts}(k0:Nat){t:Ty}{b:Bd}{s:t.den}(hx:Bnds ts bs x)(hlen:Nat.ble (jE ts bs x).length n=true)(ann:Ann P)
  (hh:Hold (wp ⟨G,n,[]⟩ c ann (vp (jE ts bs x) []) (λ_ e st=>retP P fn.results.toList k0 t s e st))):SigG P f (argsE ts x) [] (WV.c (.one (.loc d 0))).exp [(d,some (WB.rig [.dt t b s]).exp)]:=by
 have h:=hh.h;have hok:=Al hx;have ht:=GZ hm h (AF hok (λp hp=>by simp at hp));rw[A2]at ht;rw[<-wH ts bs x];have hexp:(WB.rig [.dt t b s]).exp= .rigid (ql t s):=by show Blk.rigid (WAs.exp _)=_;rw[zW]
 rw[hexp];have hcm: ∀ρ:Nat->Nat,(ql t s).map (Atom.map ρ)=ql t s:=λρ=>E2 ρ _
 refine Ce (λk=>if k=d then k0 else k) hf hb hn hname (by rw[q58];exact q5y hlen) (λp hp=>by simp at hp) (λp hp=>by simp at hp) (λp hp=>by simp at hp) (λp hp=>by simp at hp) ?_ ?_ ?_
 .intro k hk k' b' hb' hne
  have hk:k∈[d]:=hk;simp only[q5j,q62]at hk hb';exact absurd (hk.trans hb'.1.symm) hne
 .rintro k (hk|⟨k',b',hb',hm'⟩)
  .left
   have:=WV.men_ids hk;show k∈[d];exact this
  .simp only[q5j,q62,q61]at hb'
   obtain⟨rfl,rfl⟩:=hb';simp only[Blk.men,Ei]at hm';cases hm'
 .intro E hn' hK a w H β hr
  refine wp_mono (ht E hn' hK a w H β hr) ?_
  rintro e a' w' ⟨z,H',β',⟨ann',st',rfl,hk',hΦ⟩,hr'⟩
  unfold retP at hΦ;split at hΦ
  .rename_i l hl
   split at hΦ
   .rename_i b' s1 hrf
    obtain⟨h0,hΦ⟩:=hΦ;subst h0;obtain⟨h1,h2⟩:=Pf hk' hΦ;obtain⟨m,e1,i1,_⟩:=z6 hrf;have e1:WAs.exp l=m:=by rw[e1];simp[WAs.exp]
    subst e1;refine⟨st'.toA,H',β',⟨h1,⟨_,h2,λβ H v hs=>?_⟩,?_⟩,hr'⟩
    .refine(AV.sat_map (ρ:=λk=>if k=d then k0 else k) (β:=β) (H:=H) (a:=(WV.c (.one (.loc d 0))).exp) (v:=v)).1 ?_
     show(WV.c (.one (.loc (if d=d then k0 else d) 0))).exp.sat β H v;rw[if_pos rfl];exact hs
    .intro k b1 hb1
     simp only[q5j,q62,q61]at hb1;obtain⟨rfl,rfl⟩:=hb1;refine⟨.rigid (WAs.exp l),by rw[show(if k=k then k0 else k)=k0 from if_pos rfl,qW,hl];rfl,?_⟩;intro β w H hh;rw[show(if k=k then k0 else k)=k0 from if_pos rfl]at hh;have hh2:(Blk.rigid (ql t s1)).rep β w H k0:=wQ i1 β w H hh;have:=(Blk.rep_map (ρ:=λq=>if q=k then k0 else q) (β:=β) (w:=w) (H:=H) (k:=k) (x:= .rigid (ql t s1))).1 (by simp only[Blk.map,hcm,if_true];simpa using hh2);exact this
   .exact hΦ.elim
  .exact hΦ.elim
def Mg(P:Program)(rs:List ResultVar)(k0:Nat)(e:Exit)(st:WSt):Prop:=
 match e with
 | .normal=>(match resV P st rs with|some (.c (.one (.mp k)))=>k=k0|_=>False)
 | .ret=>(match resV P st rs with|some (.c (.one (.mp k)))=>k=k0|_=>False)
 |_=>False
theorem Sw{rs:List ResultVar}{k0:Nat}{st:WSt}(hk:st.Ok){e:Exit}(h:Mg P rs k0 e st):(e= .normal\/e= .ret)/\Bt P st.toA rs=some (WV.c (.one (.mp k0))).exp:=by
 cases e with
 |normal=>
  simp only[Mg]at h;split at h
  .rename_i k hR;subst h;exact⟨.inl rfl,(BG hk hR).1⟩
  .exact h.elim
 |ret=>
  simp only[Mg]at h;split at h
  .rename_i k hR;subst h;exact⟨.inr rfl,(BG hk hR).1⟩
  .exact h.elim
 |_=>exact h.elim
def Jm(P:Program)(rs:List ResultVar)(k0:Nat)(L:List KV)(e:Exit)(st:WSt):Prop:=
 match qy st k0 with
 |some (.mp _ L')=>L'=L/\Mg P rs k0 e st
 |_=>False
theorem sigM(hm:P.follows .mixedOrders=true){f:FuncId}{fn:Func}{c:Code}{n:Nat}(d:Nat)(hf:P.funcs[f]?=some fn)(hb:fn.body=some c)(hn:fn.ntmps=n)(hname:fn.name≠ "runtime.NumGoroutine")
  {G:List (Nat×Hint P)}{ts:List Ty}{bs:List Bd}{x:dens ts}(k0:Nat){m:Nat}{L:List KV}(hx:Bnds ts bs x)(hlen:Nat.ble (jE ts bs x).length n=true)(ann:Ann P)
  (hh:Hold (wp ⟨G,n,[]⟩ c ann (vp (jE ts bs x) []) (λ_ e st=>Jm P fn.results.toList k0 L e st))):SigG P f (argsE ts x) [] (WV.c (.one (.mp d))).exp [(d,some (WB.mp m L).exp)]:=by
 have h:=hh.h;have hok:=Al hx;have ht:=GZ hm h (AF hok (λp hp=>by simp at hp));rw[A2]at ht;rw[<-wH ts bs x];refine Ce (λk=>if k=d then k0 else k) hf hb hn hname (by rw[q58];exact q5y hlen) (λp hp=>by simp at hp) (λp hp=>by simp at hp) (λp hp=>by simp at hp) (λp hp=>by simp at hp) ?_ ?_ ?_
 .intro k hk k' b' hb' hne
  have hk:k∈[d]:=hk;simp only[q5j,q62]at hk hb';exact absurd (hk.trans hb'.1.symm) hne
 .rintro k (hk|⟨k',b',hb',hm'⟩)
  .left
   have:=WV.men_ids hk;show k∈[d];exact this
  .simp only[q5j,q62,q61]at hb'
   obtain⟨rfl,rfl⟩:=hb';cases hm'
 .intro E hn' hK a w H β hr
  refine wp_mono (ht E hn' hK a w H β hr) ?_
  rintro e a' w' ⟨z,H',β',⟨ann',st',rfl,hk',hΦ⟩,hr'⟩
  unfold Jm at hΦ;split at hΦ
  .rename_i m' L' hl
   obtain⟨h0,hΦ⟩:=hΦ;subst h0;obtain⟨h1,h2⟩:=Sw hk' hΦ;refine⟨st'.toA,H',β',⟨h1,⟨_,h2,λβ H v hs=>?_⟩,?_⟩,hr'⟩
   .refine(AV.sat_map (ρ:=λk=>if k=d then k0 else k) (β:=β) (H:=H) (a:=(WV.c (.one (.mp d))).exp) (v:=v)).1 ?_
    show(WV.c (.one (.mp (if d=d then k0 else d)))).exp.sat β H v;rw[if_pos rfl];exact hs
   .intro k b1 hb1
    simp only[q5j,q62,q61]at hb1;obtain⟨rfl,rfl⟩:=hb1;refine⟨.mp (mpL L'),by rw[show(if k=k then k0 else k)=k0 from if_pos rfl,qW,hl];rfl,?_⟩;intro β w H hh;exact(Blk.rep_map (ρ:=λq=>if q=k then k0 else q) (β:=β) (w:=w) (H:=H) (k:=k) (x:= .mp (mpL L'))).1 (by simpa[Blk.map]using hh)
  .exact hΦ.elim
end
end
section
def Cur:(ts:List Ty)->(dens ts->Prop)->Prop
 |[],F=>F ()
 |[t],F=> ∀x:t.den,F x
 |t::u::r,F=> ∀x:t.den,Cur (u::r) λy=>F (x,y)
theorem Cur.all: ∀{ts:List Ty}{F:dens ts->Prop},Cur ts F-> ∀x,F x
 |[],_,h,_=>h
 |[_],_,h,x=>h x
 |_::u::r,_,h,x=>Cur.all (ts:=u::r) (h x.1) x.2
section
variable {P:Program}
structure FI where
 f:FuncId
 ts:List Ty
 bs:List Bd
 pre:dens ts->List Prop
 res:List Bd->dens ts->WV
structure FI.OK (i:FI) (P:Program):Prop where
 sig: ∀x,Bnds i.ts i.bs x->(∀p∈i.pre x,p)->Sig P i.f (argsE i.ts x) (i.res i.bs x).exp
 hexp: ∀b x,(i.res b x).exp=(i.res i.bs x).exp
 okr: ∀b x,Bnds i.ts b x->(∀p∈i.pre x,p)->(i.res b x).ok
def FI.c{i:FI}(h:i.OK P):Ctr P:=⟨i.f,i.ts,i.bs,i.pre,i.res,h.sig,h.hexp,h.okr⟩
theorem mkF(hm:P.follows .mixedOrders=true){f:FuncId}{ts:List Ty}{bs:List Bd}{pre:dens ts->List Prop}{res:List Bd->dens ts->WV}{fn:Func}{c:Code}(n:Nat)(hf:P.funcs[f]?=some fn)(hb:fn.body=some c)(hn:fn.ntmps=n)(hname:fn.name≠ "runtime.NumGoroutine")(G:List (Nat×Hint P))
  (hok:Cur ts λx=> ∀b,Bnds ts b x->(∀p∈pre x,p)->(res b x).ok)
  (h:Cur ts λx=>Bnds ts bs x->(∀p∈pre x,p)-> ∃ann,Hold (wp ⟨G,n,[]⟩ c ann (vp (jE ts bs x) []) (λan e st=>wpre ⟨G,n,[]⟩ 999999 an st λ_ st=>retW P fn.results.toList (res bs x) e st)))
  (hl: ∀x,Nat.ble (jE ts bs x).length n=true:=by exact λ_=>rfl)(hi: ∀x,(res bs x).ids=[]:=by exact λ_=>rfl)(he: ∀b x,(res b x).exp=(res bs x).exp:=by exact λ_ _=>rfl):(FI.mk f ts bs pre res).OK P:=
 ⟨λx hx hp=>(h.all x hx hp).elim λann hh=>sigW hm hf hb hn hname hx (hl x) (hi x) (hok.all x _ hx hp) ann hh,he,λb x=>hok.all x b⟩
structure FO where
 f:FuncId
 ts:List Ty
 bs:List Bd
 pre:dens ts->List Prop
 res:Nat->List Bd->dens ts->WV
 blk:List Bd->dens ts->WB
structure FO.OK (i:FO) (P:Program):Prop where
 sig: ∀d x,Bnds i.ts i.bs x->(∀p∈i.pre x,p)->SigG P i.f (argsE i.ts x) [] (i.res d i.bs x).exp [(d,some (i.blk i.bs x).exp)]
 hexp: ∀d b x,(i.res d b x).exp=(i.res d i.bs x).exp/\(i.blk b x).exp=(i.blk i.bs x).exp
 okr: ∀d b x,Bnds i.ts b x->(∀p∈i.pre x,p)->(i.res d b x).ok/\(i.blk b x).ok
def FO.c{i:FO}(h:i.OK P):CtrO P:=⟨i.f,i.ts,i.bs,i.pre,i.res,i.blk,h.sig,h.hexp,h.okr⟩
def bodyO(ts:List Ty)(bs:List Bd)(fn:Func)(G:List (Nat×Hint P))(n k0:Nat)(c:Code)(R:Nat->WV):WB->dens ts->Prop
 | .gro t b l,x=> ∃ann,Hold (wp ⟨G,n,[]⟩ c ann (vp (jE ts bs x) []) (λ_ e st=>retO P fn.results.toList (R k0) k0 t l e st))
 | .mp m L,x=>R=(λk=> .c (.one (.mp k)))/\ ∃ann,Hold (wp ⟨G,n,[]⟩ c ann (vp (jE ts bs x) []) (λ_ e st=>Jm P fn.results.toList k0 L e st))
 | .rig [.dt t b s],x=>R=(λk=> .c (.one (.loc k 0)))/\ ∃ann,Hold (wp ⟨G,n,[]⟩ c ann (vp (jE ts bs x) []) (λ_ e st=>retP P fn.results.toList k0 t s e st))
 |_,_=>False
theorem bodyO.g{ts:List Ty}{bs:List Bd}{fn:Func}{G:List (Nat×Hint P)}{n k0:Nat}{c:Code}{R:Nat->WV}{t:Ty}{b:Bd}{l:List t.den}{x:dens ts}(ann:Ann P)(h:Hold (wp ⟨G,n,[]⟩ c ann (vp (jE ts bs x) []) (λ_ e st=>retO P fn.results.toList (R k0) k0 t l e st))):bodyO ts bs fn G n k0 c R (.gro t b l) x:=⟨ann,h⟩
theorem bodyO.p{ts:List Ty}{bs:List Bd}{fn:Func}{G:List (Nat×Hint P)}{n k0:Nat}{c:Code}{t:Ty}{b:Bd}{s:t.den}{x:dens ts}(ann:Ann P)(h:Hold (wp ⟨G,n,[]⟩ c ann (vp (jE ts bs x) []) (λ_ e st=>retP P fn.results.toList k0 t s e st))):bodyO ts bs fn G n k0 c (λk=> .c (.one (.loc k 0))) (.rig [.dt t b s]) x:=⟨rfl,ann,h⟩
theorem bodyO.m{ts:List Ty}{bs:List Bd}{fn:Func}{G:List (Nat×Hint P)}{n k0:Nat}{c:Code}{m:Nat}{L:List KV}{x:dens ts}(ann:Ann P)(h:Hold (wp ⟨G,n,[]⟩ c ann (vp (jE ts bs x) []) (λ_ e st=>Jm P fn.results.toList k0 L e st))):bodyO ts bs fn G n k0 c (λk=> .c (.one (.mp k))) (.mp m L) x:=⟨rfl,ann,h⟩
theorem mkO(hm:P.follows .mixedOrders=true){f:FuncId}{ts:List Ty}{bs:List Bd}{pre:dens ts->List Prop}{res:Nat->List Bd->dens ts->WV}{blk:List Bd->dens ts->WB}{fn:Func}{c:Code}(n k0:Nat)(hf:P.funcs[f]?=some fn)(hb:fn.body=some c)(hn:fn.ntmps=n)(hname:fn.name≠ "runtime.NumGoroutine")(G:List (Nat×Hint P))
  (hl: ∀x,Nat.ble (jE ts bs x).length n=true)(hr: ∀x(ρ:Nat->Nat) k,(res k bs x).exp.map ρ=(res (ρ k) bs x).exp)(hi: ∀x k,(res k bs x).ids=[k])
  (he: ∀d b x,(res d b x).exp=(res d bs x).exp/\(blk b x).exp=(blk bs x).exp)(hok:Cur ts λx=> ∀d b,Bnds ts b x->(∀p∈pre x,p)->(res d b x).ok/\(blk b x).ok)
  (h:Cur ts λx=>Bnds ts bs x->(∀p∈pre x,p)->bodyO ts bs fn G n k0 c (λk=>res k bs x) (blk bs x) x):(FO.mk f ts bs pre res blk).OK P:=by
 refine⟨λd x hx hp=>?_,he,λd b x=>hok.all x d b⟩;have hx:Bnds ts bs x:=hx;show SigG P f (argsE ts x) [] (res d bs x).exp [(d,some (blk bs x).exp)];have hh:=h.all x hx hp;have hok: ∀d b x,Bnds ts b x->(∀p∈pre x,p)->(res d b x).ok/\(blk b x).ok:=λd b x=>hok.all x d b
 have hr:=hr x;have hi:=hi x;have hok:=λk=>(hok k _ x hx hp).1
 revert hh hr hi hok;generalize hB:blk bs x=B;generalize hR:(λk=>res k bs x)=R;have hR2: ∀k,res k bs x=R k:=λk=>congrFun hR k
 simp only[hR2];intro hh hr hi hok;unfold bodyO at hh;split at hh
 .obtain⟨ann,hh⟩:=hh
  exact sigO hm d hf hb hn hname k0 hx (hl x) hok hr hi ann hh
 .obtain⟨rfl,ann,hh⟩:=hh
  exact sigM hm d hf hb hn hname k0 hx (hl x) ann hh
 .obtain⟨rfl,ann,hh⟩:=hh
  exact sigP hm d hf hb hn hname k0 hx (hl x) ann hh
 .exact hh.elim
structure FB where
 f:FuncId
 t:Ty
 tb:Bd
 ts:List Ty
 bs:List Bd
 pre:t.den->dens ts->List Prop
 res:Bd->List Bd->t.den->dens ts->WV
 new:t.den->dens ts->t.den
 nb:Bd->List Bd->Bd
structure FB.OK (i:FB) (P:Program):Prop where
 sig: ∀s x,Bnd i.t i.tb s->Bnds i.ts i.bs x->(∀p∈i.pre s x,p)->SigG P i.f (.c (.one (.loc 100000 0))::argsE i.ts x) [(100000,.rigid (ql i.t s))] (i.res i.tb i.bs s x).exp [(100000,some (.rigid (ql i.t (i.new s x))))]
 hexp: ∀b bb s x,(i.res b bb s x).exp=(i.res i.tb i.bs s x).exp
 hids: ∀s x,(i.res i.tb i.bs s x).ids=[]
 okr: ∀b bb s x,Bnd i.t b s->Bnds i.ts bb x->(∀p∈i.pre s x,p)->(i.res b bb s x).ok/\Bnd i.t (i.nb b bb) (i.new s x)
def FB.c{i:FB}(h:i.OK P):CtrB P:=⟨i.f,i.t,i.tb,i.ts,i.bs,i.pre,i.res,i.new,i.nb,h.sig,h.hexp,λk s x=>JW (h.hids s x) k,h.okr⟩
theorem mkB'(hm:P.follows .mixedOrders=true){f:FuncId}{t:Ty}{tb:Bd}{ts:List Ty}{bs:List Bd}{pre:t.den->dens ts->List Prop}{res:Bd->List Bd->t.den->dens ts->WV}{new:t.den->dens ts->t.den}{nb:Bd->List Bd->Bd}{fn:Func}{c:Code}(n:Nat)(hf:P.funcs[f]?=some fn)(hb:fn.body=some c)(hn:fn.ntmps=n)(hname:fn.name≠ "runtime.NumGoroutine")(G:List (Nat×Hint P))
  (hl: ∀x,Nat.ble ((jE ts bs x).length+1) n=true)(hi: ∀s x,(res tb bs s x).ids=[])(he: ∀b bb s x,(res b bb s x).exp=(res tb bs s x).exp)
  (hok: ∀s,Cur ts λx=> ∀b bb,Bnd t b s->Bnds ts bb x->(∀p∈pre s x,p)->(res b bb s x).ok/\Bnd t (nb b bb) (new s x))
  (h: ∀s,Cur ts λx=>Bnd t tb s->Bnds ts bs x->(∀p∈pre s x,p)-> ∃ann,Hold (wp ⟨G,n,[100000]⟩ c ann (vp (.c (.one (.loc 100000 0))::jE ts bs x) [(100000,.rig [.dt t tb s])]) (λan e st=>wpre ⟨G,n,[100000]⟩ 999999 an st λ_ st=>retB P fn.results.toList (res tb bs s x) t (new s x) e st))):(FB.mk f t tb ts bs pre res new nb).OK P:=
 ⟨λs x hs hx hp=>((h s).all x hs hx hp).elim λann hh=>sigB hm hf hb hn hname hs hx (hl x) (hi s x) ((hok s).all x _ _ hs hx hp).1 ann hh,he,hi,λb bb s x=>(hok s).all x b bb⟩
structure FV where
 f:FuncId
 g:Bool
 t:Ty
 e:Bd
 m:Nat
 ts:List Ty
 bs:List Bd
 pre:List t.den->Nat->Nat->Nat->dens ts->List Prop
 res:Nat->List Bd->List t.den->Nat->Nat->Nat->dens ts->WV
 new:List t.den->Nat->Nat->Nat->dens ts->List t.den
structure FV.OK (i:FV) (P:Program):Prop where
 sig: ∀l lo n cap x,(∀u∈l,Bnd i.t i.e u)->Bnds i.ts i.bs x->n<=cap->n<=i.m->(∀p∈i.pre l lo n cap x,p)->SigG P i.f (.c (.one (sA i.g i.t.w 100000 lo n cap))::argsE i.ts x) [(100000,sB i.g i.t l)] (i.res 100000 i.bs l lo n cap x).exp [(100000,some (sB i.g i.t (i.new l lo n cap x)))]
 hexp: ∀k b l lo n cap x,(i.res k b l lo n cap x).exp=(i.res k i.bs l lo n cap x).exp
 hren: ∀k l lo n cap x,(i.res 100000 i.bs l lo n cap x).exp.map (ren 100000 k)=(i.res k i.bs l lo n cap x).exp
 okr: ∀k b l lo n cap x,Bnds i.ts b x->(∀u∈l,Bnd i.t i.e u)->n<=cap->n<=i.m->(∀p∈i.pre l lo n cap x,p)->(i.res k b l lo n cap x).ok/\ ∀u∈i.new l lo n cap x,Bnd i.t i.e u
def FV.c{i:FV}(h:i.OK P):CtrS P:=⟨i.f,i.g,i.t,i.e,i.m,i.ts,i.bs,i.pre,i.res,i.new,h.sig,h.hexp,h.hren,h.okr⟩
theorem mkSl(hm:P.follows .mixedOrders=true){f:FuncId}{g:Bool}{t:Ty}{e:Bd}{M:Nat}{ts:List Ty}{bs:List Bd}{pre:List t.den->Nat->Nat->Nat->dens ts->List Prop}{res:Nat->List Bd->List t.den->Nat->Nat->Nat->dens ts->WV}{new:List t.den->Nat->Nat->Nat->dens ts->List t.den}{fn:Func}{c:Code}(n:Nat)(hf:P.funcs[f]?=some fn)(hb:fn.body=some c)(hn:fn.ntmps=n)(hname:fn.name≠ "runtime.NumGoroutine")(G:List (Nat×Hint P))
  (hl: ∀x,Nat.ble ((jE ts bs x).length+1) n=true)(hi: ∀l lo m cap x,(res 100000 bs l lo m cap x).ids.all (Nat.beq 100000)=true)(he: ∀k b l lo m cap x,(res k b l lo m cap x).exp=(res k bs l lo m cap x).exp)
  (hr: ∀k l lo m cap x,(res 100000 bs l lo m cap x).exp.map (ren 100000 k)=(res k bs l lo m cap x).exp)
  (hok: ∀l lo m cap,Cur ts λx=> ∀k b,Bnds ts b x->(∀u∈l,Bnd t e u)->m<=cap->m<=M->(∀p∈pre l lo m cap x,p)->(res k b l lo m cap x).ok/\ ∀u∈new l lo m cap x,Bnd t e u)
  (h: ∀l lo m cap,Cur ts λx=>(∀u∈l,Bnd t e u)->Bnds ts bs x->m<=cap->m<=M->(∀p∈pre l lo m cap x,p)-> ∃ann,Hold (wp ⟨G,n,[100000]⟩ c ann (vp (.c (.one (mkS g t 100000 lo m cap M))::jE ts bs x) [(100000,mkB g t e l)]) (λan e st=>wpre ⟨G,n,[100000]⟩ 999999 an st λ_ st=>retS P fn.results.toList (res 100000 bs l lo m cap x) g t (new l lo m cap x) e st))):(FV.mk f g t e M ts bs pre res new).OK P:=
 ⟨λl lo m cap x hs hx h1 h2 hp=>((h l lo m cap).all x hs hx h1 h2 hp).elim λann hh=>sigS hm hf hb hn hname hs h1 h2 hx (hl x) (hi l lo m cap x) ((hok l lo m cap).all x _ _ hx hs h1 h2 hp).1 ann hh,he,hr,λk b l lo m cap x=>(hok l lo m cap).all x k b⟩
end
end
end Go.Proofs.YtamiaelfnfnegaaGreatDoor.Sx
namespace Go.Proofs.YtamiaelfnfnegaaGreatDoor
open Go Go.Proofs Go.ChangeShapes Go.WideShapes Go.ChangeAt Go.RowKit
theorem q4l:ownKnob Tryz.prog.godebug=none:=by kernel_rfl
theorem q1E:laidOutB Tryz.prog=true:=by kernel_rfl
theorem YL: Tryz.prog.cellsOf 3=1:=by kernel_rfl
theorem Iw{H:Sx.Heap}: ∀(l:List Int)(vs:List Value),(∀i,i<l.length->vs[i]?=some (.int .i64 (l.getD i 0)))->Sx.CSats H (l.flatMap (Sx.cellsC (.int .i64))) (vs.take (l.flatMap (Sx.cellsC (.int .i64))).length)
 |[],vs,_=>by simp[Sx.CSats]
 |z::l,[],h=>by have:=h 0 (by simp);simp at this
 |z::l,v::vs,h=>by
  have h0:=h 0 (by simp);have h1:v= .int .i64 z:=by simpa using h0
  have ih:=Iw (H:=H) l vs λi hi=>by have:=h (i+1) (by simp;omega);simpa using this
  show Sx.CSats H (.val (.int .i64 z)::l.flatMap (Sx.cellsC (.int .i64))) ((v::vs).take ((l.flatMap (Sx.cellsC (.int .i64))).length+1));rw[List.take_succ_cons];exact⟨⟨h1,rfl⟩,ih⟩
theorem q3c{n:Int}(h:(Lit.int .i64 n).wf=true):n.natAbs<=9223372036854775808:=by
 simp[Lit.wf,IntKind.min,IntKind.max,IntKind.signed,IntKind.bits]at h;omega
theorem UI{H:Type}{enc:TypeId×Value->H}{W:World}{a0:Option Addr}{len cap fuel:Nat}{x:DataW H×List MemPlace}(hf:DataW.trod enc Tryz.prog W 0 (λ_=>true) true fuel 22 [.slice a0 len cap]=some x):
  ∃(l:List Int)(Hh:Sx.Heap),Sx.Heap.On Hh W/\(Sx.flP (l.flatMap (Sx.cellsC (.int .i64))) l.length).p Hh (.slice a0 len cap)/\l.length<=9223372036854775807/\ ∀n∈l,n.natAbs<=9223372036854775808:=by
 rcases open_ints Tryz.underlying22 Tryz.underlying3 YL hf with⟨hcs,hx⟩|⟨a,len',cap',zs,hcs,_,hl,hm,hz,hx,hcell,hwz⟩
 .simp at hcs
  obtain⟨rfl,rfl,rfl⟩:=hcs;exact⟨[],λ_=>none,(λb cs h=>by cases h),⟨none,0,rfl,Nat.le_refl 0,.inl rfl⟩,by simp,by simp⟩
 .simp at hcs
  obtain⟨rfl,rfl,rfl⟩:=hcs;simp only[if_true]at hz;have hb: ∀n∈zs.take len,n.natAbs<=9223372036854775808:=λn hn=>q3c (hwz n (List.mem_of_mem_take hn))
  have hm2:cap<=9223372036854775807:=hm;have hll:(zs.take len).length=len:=by rw[List.length_take];omega
  by_cases hlen:len=0
  .subst hlen
   exact⟨[],λ_=>none,(λb cs h=>by cases h),⟨some a,cap,rfl,by omega,.inl rfl⟩,by simp,by simp⟩
  .have c0:=hcell 0 (by omega)
   obtain⟨b,off,sp⟩:=a
   have⟨arr,T,fz,hh,hsp⟩: ∃arr T fz,W.heap[b]?=some (.cells arr T fz)/\sp=none:=by
    simp only[Addr.add,if_true,World.cell?]at c0;split at c0
    .rename_i c T fz hh
     refine⟨c,T,fz,hh,?_⟩
     cases sp with
     |none=>rfl
     |some s=>simp at c0
    .cases c0
   subst hsp;refine⟨zs.take len,λq=>if q=b then some arr else none,λq cs h=>?_,⟨some ⟨b,off,none⟩,cap,by rw[hll],by omega,.inr ⟨b,off,arr,rfl,by simp,?_⟩⟩,by omega,hb⟩
   .simp only at h
    split at h
    .rename_i e;subst e;cases h;exact⟨T,fz,hh⟩
    .cases h
   .refine Iw _ _ λi hi=>?_
    rw[hll]at hi;have ci:=hcell i (by omega)
    have e1:W.cell? (Addr.add ⟨b,off,none⟩ i)=arr[off+i]?:=by
     by_cases e:i=0
     .subst e;simp[Addr.add,World.cell?,hh]
     .simp[Addr.add,World.cell?,hh,e]
    rw[e1]at ci;rw[List.getElem?_drop,Array.getElem?_toList,ci]
    congr 2
    simp[List.getD_eq_getElem?_getD,hi]
end Go.Proofs.YtamiaelfnfnegaaGreatDoor
namespace Go.Proofs.YtamiaelfnfnegaaGreatDoor.Sx
open Go Go.Proofs
set_option linter.unusedVariables false
set_option linter.unusedSimpArgs false
set_option maxRecDepth 20000
set_option maxHeartbeats 4000000
end Go.Proofs.YtamiaelfnfnegaaGreatDoor.Sx
namespace Go.Proofs.YtamiaelfnfnegaaGreatDoor
open Go Go.Proofs Go.ChangeShapes Go.WideShapes Go.ChangeAt Go.RowKit Go.ChangeMaps
theorem jf0:(Rows.booleanMergesRow.inPlace== Tryz.prog.inPlace 3)=true:=by kernel_rfl
theorem jf1:(Rows.booleanMergesRow.unfollowed== Tryz.prog.unfollowed 3)=true:=by kernel_rfl
theorem jf2:(Rows.booleanMergesRow.recurses== Tryz.prog.recurses 3)=true:=by kernel_rfl
theorem jf3:(Rows.booleanMergesRow.named== Tryz.prog.varsNamed 3)=true:=by kernel_rfl
theorem jf:joinedFacts Tryz.prog 3 Tryz.f3 Rows.booleanMergesSpec Rows.booleanMergesRow=true:=by
 unfold joinedFacts;rw[jf0,jf1,jf2,jf3]
 kernel_rfl
theorem q3R:Rows.booleanMergesRow.wfByText (OpenSpec.ofChange Rows.booleanMergesSpec)=true:=by kernel_rfl
theorem YN: Tryz.pinned.checked.prog.mainIs=some (true, "6939244bc6494745470e466d10f45ab5d6eb9a17bd80632707580bef89ae9599".toList):=by kernel_rfl
theorem TI{P:Program}(h:P.funcs.any Func.goes=false)(s:String):P.goesAt .entering s=false:=by
 have hall: ∀g:Nat,(P.funcs[g]?).any Func.goes=false:=by
  intro g
  cases hg:P.funcs[g]? with
  |none=>rfl
  |some fn=>
   have hm:fn∈P.funcs:=Array.mem_of_getElem? hg;have:=Array.any_eq_false.1 h;obtain⟨i,hi,rfl⟩:=Array.getElem_of_mem hm;simpa using this i hi
 have hf: ∀f,P.goes f=false:=by
  intro f;unfold Program.goes;rw[h,Bool.and_false,Bool.or_false];rw[List.any_eq_false];intro g _;simp[hall g]
 unfold Program.goesAt Program.goesFrom;rw[Bool.or_false]
 cases P.funcNamed s with
 |none=>rfl
 |some f=>exact hf f
theorem q17: Tryz.prog.funcs.any Func.goes=false:=by kernel_rfl
theorem q3Q:false=Rows.booleanMergesRow.goesBy Tryz.pinned.checked.prog:=(TI q17 _).symm
theorem YM:false= Tryz.pinned.checked.prog.looks []:=by kernel_rfl
end Go.Proofs.YtamiaelfnfnegaaGreatDoor
namespace Go.Proofs.YtamiaelfnfnegaaGreatDoor.Sx
open Go Go.Proofs
set_option linter.unusedVariables false
set_option linter.unusedSimpArgs false
set_option maxRecDepth 20000
set_option maxHeartbeats 4000000
end Go.Proofs.YtamiaelfnfnegaaGreatDoor.Sx
namespace Go.Proofs.YtamiaelfnfnegaaGreatDoor
open Go Go.Proofs Go.ChangeShapes Go.WideShapes Go.ChangeAt Go.RowKit Go.ChangeMaps
def FJ:Prop:= ∀(a b c:ByteArray)(l:List Int),a.size<=140737488351232->b.size<=140737488351232->c.size<=140737488351232->l.length<=9223372036854775807->(∀n∈l,n.natAbs<=9223372036854775808)->
 Sx.Sig Tryz.prog 3 (Sx.argsE [.str,.str,.str,.sl (.int .i64)] (a,b,c,l)) (Sx.WV.c (.one (.vl (.bool true)))).exp
theorem US{f:FuncId}{a b c:ByteArray}{l:List Int}(hs:Sx.Sig Tryz.prog f (Sx.argsE [.str,.str,.str,.sl (.int .i64)] (a,b,c,l)) (Sx.WV.c (.one (.vl (.bool true)))).exp){W:World}{v0:Value}{H:Sx.Heap}(hon:Sx.Heap.On H W)
  (h0:(Sx.flP (l.flatMap (Sx.cellsC (.int .i64))) l.length).p H v0):Calls Tryz.prog f #[.string a,.string b,.string c,v0] W λe W'=>e= .returned (.bool true)/\Below W.heap.size W W':=by
 have h:=hs.2 [.string a,.string b,.string c,v0] W H (λ_=>none) ⟨⟨rfl,rfl⟩,⟨rfl,rfl⟩,⟨rfl,rfl⟩,h0,trivial⟩ (λp hp=>by cases hp) (λp hp=>by cases hp) hon;refine h.mono λe W' hw=>?_
 obtain⟨v,H',β',rfl,hst,hv,_⟩:=hw;have hv2:v= .bool true:=hv.1;refine⟨by rw[hv2],⟨hst.os,hst.tape,hst.output,hst.size,λk hk=>hst.keep k hk (λq hq=>by simp[Sx.kwOf]at hq)⟩⟩
set_option maxRecDepth 100000 in
theorem Eg (hs : FJ) (os : Os) (started : os.Started) (H : Type) (enc : TypeId × Value -> H) :
  ReturnsInHanded {} Tryz.checked os 3 .any (λw args => (Rows.booleanMergesSpec.pre enc Tryz.prog Tryz.f3 [] false w args /\ laidMetH Tryz.prog Rows.booleanMergesRow.laid w) /\ sizedMet enc Tryz.prog Tryz.f3 (OpenSpec.ofChange Rows.booleanMergesSpec) false w args)
   (Rows.booleanMergesSpec.post enc Tryz.prog Tryz.f3 false true false false) := by
 refine returnsInHanded_of_change_and (C := Tryz.checked) (X := λw _ => laidMetH Tryz.prog Rows.booleanMergesRow.laid w) (λ_ _ _ hh h => h.of_heap hh) q4l started (by kernel_rfl) Tryz.func3
  (ChangeSpec.witness_shaped (enc := enc) (C := Tryz.checked) (os := os) (X := λw _ => laidMetH Tryz.prog Rows.booleanMergesRow.laid w) false (World.laidAll Tryz.prog os Rows.booleanMergesRow.laid) #[.string ByteArray.empty, .string ByteArray.empty, .string ByteArray.empty, .slice none 0 0] 8 (World.laidAll_os _ _ _)
   (World.shaped_of_ZipB (by kernel_rfl) (by kernel_rfl)) (by kernel_rfl) (by kernel_rfl) (by kernel_rfl)
   (by rw [MakeChecks.laidMetH_plain _ _ _ (by kernel_rfl)]; exact laidMet_laidAll _ (by kernel_rfl) (by kernel_rfl))) ?_
 intro W base args ds gs before hval0 hW _ hsz0 _ _;have hval : ∀ (j : Nat) t v, Tryz.f3.params[j]? = some t -> args[j]? = some v -> Value.okWide Tryz.prog W .any base t v := hval0;have hW' := hW;obtain ⟨p, q, hA0, hV, rfl, hfz, hnd⟩ := hW;have hA : DataW.TrodAll enc Tryz.prog W 0 (λ_ => true) true Tryz.f3.params.toList args.toList ds p := hA0;rw [Tryz.params3] at hA hval;obtain ⟨v0, v1, v2, v3, d0, d1, d2, d3, p0, p1, p2, p3, rfl, rfl, rfl, h0, h1, h2, h3⟩ := trodAll_four hA;obtain ⟨rfl, rfl⟩ := trodVars_none hV;obtain ⟨a, rfl, rfl, rfl, wa⟩ := open_string Tryz.underlying9 (hval 0 9 v0 rfl rfl) h0;obtain ⟨b, rfl, rfl, rfl, wb⟩ := open_string Tryz.underlying9 (hval 1 9 v1 rfl rfl) h1;obtain ⟨c, rfl, rfl, rfl, wc⟩ := open_string Tryz.underlying9 (hval 2 9 v2 rfl rfl) h2;obtain ⟨a0, len, cap, rfl⟩ := okWide_slice Tryz.underlying22 (hval 3 22 v3 rfl rfl);have h3k := h3;obtain ⟨fuel, hf⟩ := h3;have hsz : (DataW.weightsEach Tryz.prog (Tryz.f3.params.toList ++ Rows.booleanMergesSpec.plain.varTypes Tryz.prog) ([DataW.lit (Lit.string a.data.toList), DataW.lit (Lit.string b.data.toList), DataW.lit (Lit.string c.data.toList), d3] ++ [])).all (· <= reachBytes) = true := hsz0;rw [Tryz.params3] at hsz;have sa := sized_string hsz (j := 0) (t := 9) rfl rfl;have sb := sized_string hsz (j := 1) (t := 9) rfl rfl;have sc := sized_string hsz (j := 2) (t := 9) rfl rfl;rw [Array.length_toList] at sa sb sc;clear hA0 hval0 hsz0 hsz;simp only [List.append_nil] at hW';have hlt : ∀ x ∈ p3, x.block < W.heap.size := λx hx => by simpa using hW'.lt x (by simpa using hx)
 obtain ⟨l, Hh, hon, hp0, hl, hb⟩ := UI (by simpa [Value.cells] using hf);refine (US (hs a b c l sa sb sc hl hb) hon hp0).mono λe W' hh => ?_
 obtain ⟨rfl, hbl⟩ := hh;refine ⟨_, rfl, _, _, _, [], p3, [], hW', ?_, ?_, ?_, hbl.frame _, λh => by cases h⟩
 .exact trodAll_mk1 (shut_bool Tryz.underlying4 true)
 .have := trodAll_mk4 (shut_string (enc := enc) (w := W') (base := 0) (sp := λb => decide (b < W.heap.size)) (held := true) Tryz.underlying9 wa) (shut_string Tryz.underlying9 wb) (shut_string Tryz.underlying9 wc) (Below.trod q1E (by kernel_rfl) (of_decide_eq_true (by kernel_rfl)) h3k hbl hlt)
  exact this
 .rfl
theorem H6(hs:FJ):Rows.BooleanMergesSaid:=
 OpenClaim.holds_of_wide 3 Tryz.f3 rfl rfl rfl rfl rfl rfl rfl ⟨rfl,rfl,rfl,rfl,rfl⟩ rfl rfl rfl rfl rfl (by kernel_rfl) Tryz.func3 jf
  (of_decide_eq_true (by kernel_rfl)) (by unfold Func.isWrapper;first|(rw[if_pos (by decide+kernel)];kernel_rfl)|(rw[if_neg (by decide+kernel)];exact⟨rfl,rfl⟩))
  (λos started H enc _=>Eg hs os started H enc)
theorem Hm (hs : FJ) : Rows.BooleanMergesCardSaid :=
 Claim7.holds_tied_plain_at .later [] [.data, .pinned] true (true, "6939244bc6494745470e466d10f45ab5d6eb9a17bd80632707580bef89ae9599") false
  (H6 hs) (λ_ h => by cases h) q3R (λ_ h => by cases h) booleanMerges_row_tie rfl ⟨rfl, rfl⟩ YN rfl
  (λf fn hf hfn => by
   obtain rfl : f = 3 := Option.some.inj ((show Tryz.prog.funcNamed "brepkernel/brepkernellaw33.BooleanMerges" = some 3 by kernel_rfl).symm.trans hf) |>.symm
   obtain rfl : fn = Tryz.f3 := (Option.some.inj (Tryz.func3.symm.trans hfn)).symm
   exact ⟨YM, λj t ht => by
    rw [Tryz.params3] at ht;have hm : t ∈ [9, 9, 9, 22] := by simpa using Array.mem_of_getElem? ht
    have hall : ([9, 22].all λu => !Tryz.prog.wantsStandIn u) = true := by kernel_rfl
    have hm2 : t ∈ [9, 22] := by simp at hm ⊢; omega
    exact (show Tryz.prog.wantsStandIn t = false by simpa using List.all_eq_true.1 hall t hm2)⟩)
  q3Q
end Go.Proofs.YtamiaelfnfnegaaGreatDoor
namespace Go.Proofs.YtamiaelfnfnegaaGreatDoor.Sx
open Go Go.Proofs
set_option linter.unusedVariables false
set_option linter.unusedSimpArgs false
set_option maxRecDepth 20000
set_option maxHeartbeats 4000000
open Go Go.Proofs Go.Shelf Go.Sort Go.RowKit
def j5(x:ByteArray):List UInt8:=x.data.toList
def obB(l:List UInt8):ByteArray:=⟨l.toArray⟩
theorem EN(x:ByteArray):obB (j5 x)=x:=by cases x with|mk d=>cases d;rfl
theorem Im(l:List UInt8):j5 (obB l)=l:=rfl
theorem Kd(l:List UInt8):(obB l).size=l.length:=by simp[obB,ByteArray.size]
theorem Fg(x:ByteArray):(j5 x).length=x.size:=rfl
def jZ:ByteArray:=⟨#[43]⟩
def qY(s:ByteArray):List ByteArray:=Lib.splitB jZ 0 (Lib.countB s jZ) s
def qU(l:List ByteArray):List (List UInt8):=l.map j5
def srB(l:List ByteArray):List ByteArray:=((qU l).mergeSort λx y=>decide (x<=y)).map obB
def cmB(l:List ByteArray):List ByteArray:=(Lib.compact (qU l)).map obB
def cmF(l:List ByteArray):List ByteArray:=(Lib.compact (qU l)++List.replicate (l.length-(Lib.compact (qU l)).length) []).map obB
def jnB(l:List ByteArray):ByteArray:=obB (Lib.join (qU l) [43])
theorem HZ{β:Bm}{H:Heap}: ∀l:List ByteArray,Sats β H (qI .str l) (l.map Value.string)
 |[]=>trivial
 |x::l=>⟨⟨rfl,rfl⟩,HZ l⟩
theorem Oo{β:Bm}{H:Heap}: ∀{l:List ByteArray}{vs:List Value},Sats β H (qI .str l) vs->vs=l.map Value.string
 |[],[],_=>rfl
 |[],_::_,h=>h.elim
 |x::l,v::vs,h=>by
  have h:(v= .string x/\_)/\Sats β H (qI .str l) vs:=h;rw[Oo h.2,h.1.1];rfl
 |x::l,[],h=>h.elim
theorem KN{H:Heap}: ∀{l:List ByteArray}{vs:List Value},CSats H (l.flatMap (cellsC .str)) vs->vs=l.map Value.string
 |[],[],_=>rfl
 |[],_::_,h=>h.elim
 |x::l,v::vs,h=>by
  have h:(v= .string x/\_)/\CSats H (l.flatMap (cellsC .str)) vs:=h;rw[KN h.2,h.1.1];rfl
 |x::l,[],h=>h.elim
theorem wP(l:List ByteArray):(qI .str l).length=l.length:=by rw[zk];exact Nat.mul_one _
theorem V8 {P : Program} {ρ : Ren} (L : Lays.n146 P ρ) (hi9 : (P.info? (ρ.t 9)).map (λi => (i.zero, i.size, i.bytes)) = some (some (.string ByteArray.empty), 1, 16)) (s : ByteArray) (b : UInt8) (w : World) (hs : s.size < 4294967281) :
  Calls P (ρ.f 146) #[.string s, .string ⟨#[b]⟩] w λe w' =>
   e = .returned (.slice (some ⟨w.heap.size, 0, none⟩) (Lib.countB s ⟨#[b]⟩ + 1) (Lib.countB s ⟨#[b]⟩ + 1)) /\ w' = w.alloc (.cells ((Lib.splitB ⟨#[b]⟩ 0 (Lib.countB s ⟨#[b]⟩) s).map Value.string).toArray (ρ.t 9)) := by
 have h1 : 1 <= (⟨#[b]⟩ : ByteArray).size := q5B 1
 have hC : Calls P (ρ.f 138) #[.string s, .string ⟨#[b]⟩] w λe w' => e = .returned (.int .i64 (Lib.countB s ⟨#[b]⟩)) /\ w' = w :=
  (Any.strings_Count_one { L with } s b w).mono λe w' ⟨he, hw⟩ => ⟨by
   rw [he];show _ = Ending.returned (Value.int .i64 ((Lib.count s.data.toList [b] : Nat) : Int))
   rw [Lib.count_one]; rfl, hw⟩
 have hI : ∀ (x : ByteArray) (c : Array Value), x.size <= s.size -> Calls P (ρ.f 143) #[.string x, .string ⟨#[b]⟩] (w.alloc (.cells c (ρ.t 9))) λe w' => e = .returned (.int .i64 (Lib.indexB x ⟨#[b]⟩)) /\ w' = w.alloc (.cells c (ρ.t 9)) := λx c _ =>
  (Any.strings_Index_one { L with } x b _).mono λe w' ⟨he, hw⟩ => ⟨by
   rw [he];show _ = Ending.returned (Value.int .i64 (Lib.index x.data.toList [b]))
   rw [Lib.index_one], hw⟩
 have hle := Lib.countB_le ⟨#[b]⟩ h1 s.size s (q5B _);have hlen := Lib.splitB_all ⟨#[b]⟩ h1 0 _ s rfl;have c := Any.strings_genSplit_core { L with } hi9 s ⟨#[b]⟩ 0 (-1) (Lib.countB s ⟨#[b]⟩ + 1) w hs h1 (q5X _) hI hC (by decide) (by decide) (by rw [if_pos (by decide)]; omega);rw [Nat.add_sub_cancel, hlen] at c;have e2 : Lib.cellsOf (Lib.splitB ⟨#[b]⟩ 0 (Lib.countB s ⟨#[b]⟩) s) (Lib.countB s ⟨#[b]⟩ + 1) = ((Lib.splitB ⟨#[b]⟩ 0 (Lib.countB s ⟨#[b]⟩) s).map Value.string).toArray := by rw [<- hlen]; exact Lib.cellsOf_full _
 rw [e2] at c;have t3 := L.t3; have t9 := L.t9; have t31 := L.t31
 have a3 := L.a3; have a9 := L.a9; have a31 := L.a31
 have z3 := L.z3; have v3 := L.v3; have z9 := L.z9; have v9 := L.v9; have z31 := L.z31; have v31 := L.v31
 have e221 : ∀ args w, (callFunc (ρ.f 221) args).run P w = .ok (.enter (ρ.f 221) args) w := enters_of L.f221 (by kernel_rfl) rfl;clear hI hC hle e2 hs
 go_enter L.f146, Body.n146_ntmps ρ
 go_wp2_with (go_at_fn (ρ.f 221); refine c.mono ?_; rintro e w' ⟨rfl, hw⟩; rw [hw])
 go_ret
 exact ⟨rfl, rfl⟩
theorem V6(s:ByteArray):(qY s).length=Lib.countB s jZ+1:=Lib.splitB_all jZ (q5B 1) 0 _ s rfl
theorem V9(d:Nat)(s:ByteArray)(hs:s.size<4294967281):SigG Tryz.prog 14 (argsE [.str,.str] (s,jZ)) [] (.c (.one (.gs d (qY s).length))) [(d,some (.grow 1 (qI .str (qY s))))]:=by
 refine⟨by kernel_rfl,λvs w H β hargs _ _ hon=>?_⟩
 match vs,hargs with
 |[v0,v1],⟨⟨e0,_⟩,⟨e1,_⟩,_⟩=>
  have e0:v0= .string s:=e0;have e1:v1= .string jZ:=e1;subst e0;subst e1
  have hc:Calls Tryz.prog 14 #[.string s,.string jZ] w _:=V8 q1F (by kernel_rfl) s 43 w hs;refine hc.mono λe w'⟨he,hw⟩=>?_
  have hl:=V6 s;refine⟨.slice (some ⟨w.heap.size,0,none⟩) (qY s).length (qY s).length,H,β.set d (some (w.heap.size,(qY s).length)),by rw[he,hl];rfl,by rw[hw];exact Step.alloc d _ _ hon,.inr ⟨w.heap.size,_,Bm.set_same _ _ _,rfl⟩,?_⟩;intro k b hk;have hk:(k,some b)=(d,some (Blk.grow 1 (qI .str (qY s)))):=by simpa using hk
  cases hk;refine .inr ⟨w.heap.size,(qY s).length,((qY s).map Value.string).toArray,9,Bm.set_same _ _ _,by rw[hw];exact vS _ _,by simp,by rw[wP];simp,?_⟩;rw[wP]
  have:((qY s).map Value.string).toArray.toList.take (qY s).length=(qY s).map Value.string:=by
   show((qY s).map Value.string).take (qY s).length=_;exact q5o (by rw[q58];exact q5B _)
  rw[this];exact HZ _
theorem q07(d:Array (List UInt8))(c:Array Value)(h:d.size<=c.size):(putCells encStr 0 d c).size=c.size/\(putCells encStr 0 d c).toList.take d.size=d.toList.map encStr:=by
 refine⟨by simp[putCells],?_⟩;apply List.ext_getElem?;intro i;by_cases hi:i<d.size
 .rw[q53 hi,Array.getElem?_toList]
  have hc:i<c.size:=by omega
  simp[putCells,hi,hc]
 .rw[q52 (by simp[putCells];omega),q52 (by simp;omega)]
theorem holds_of{w:World}{H:Heap}{β:Bm}{l:List ByteArray}{b:Nat}{arr:Array Value}{T:TypeId}(hw:w.heap[b]?=some (.cells arr T (0,0)))(hs:Sats β H (qI .str l) (arr.toList.take l.length)):Holds encStr w b 0 (qU l).toArray:=by
 have he:=Oo hs;intro j hj;have hj:j<l.length:=by simpa[qU]using hj
 have ha:arr[j]?=some (.string l[j]):=by
  have:=congrArg (λx=>x[j]?) he;simp only[q53 hj,Array.getElem?_toList,List.getElem?_map]at this;rw[this];simp[hj]
 have hjs:j<(qU l).toArray.size:=by simpa[qU]using hj
 refine⟨?_,?_⟩
 .simp only[World.cell?,hw,q5W]
  rw[getElem!_pos _ j hjs];simp only[qU,List.getElem_toArray,List.getElem_map];show arr[j]?=some (.string (obB (j5 l[j])));rw[EN,ha]
 .simp[World.frozen?,hw]
theorem O5{w w':World}{H:Heap}{β:Bm}{k b c n:Nat}{arr:Array Value}{T:TypeId}{os:Array Obj}{ys:List (List UInt8)}{l:List ByteArray}(hβ:β k=some (b,c))(hw:w.heap[b]?=some (.cells arr T (0,0)))(hH:H b=none)(hon:Heap.On H w)
  (hsz:arr.size=c*1)(hle:ys.length<=arr.size)(e:w'=grow (putRow encStr (Sort.ahead w n) b 0 ys.toArray) os)(hl:l=ys.map obB):
  Step w H β [k] [] [] w' H β/\(Blk.grow 1 (qI .str l)).rep β w' H k:=by
 have hb:b<w.heap.size:=(Array.getElem?_eq_some_iff.1 hw).1;obtain⟨p1,p2⟩:=q07 ys.toArray arr (by simpa using hle);have hsz2:(putRow encStr (Sort.ahead w n) b 0 ys.toArray).heap.size=w.heap.size:=by simp[putRow,mapBlock,Sort.ahead]
 have hat:w'.heap[b]?=some (.cells (putCells encStr 0 ys.toArray arr) T (0,0)):=by
  rw[e];show((putRow encStr (Sort.ahead w n) b 0 ys.toArray).heap++os)[b]?=_;rw[Array.getElem?_append_left (by rw[hsz2];exact hb)];simp[putRow,mapBlock,Sort.ahead,Array.getElem?_modify,hw,onCells]
 have hoth: ∀b',b'<w.heap.size->b'≠b->w'.heap[b']?=w.heap[b']?:=by
  intro b' h1 h2;rw[e];show((putRow encStr (Sort.ahead w n) b 0 ys.toArray).heap++os)[b']?=_;rw[Array.getElem?_append_left (by rw[hsz2];exact h1)];simp[putRow,mapBlock,Sort.ahead,Array.getElem?_modify,Ne.symm h2]
 refine⟨⟨by rw[e];rfl,by rw[e];rfl,by rw[e];rfl,?_,?_,Heap.Le.refl _,λb hb=> .inl hb,?_,λ_ _=>rfl,λk hk=>by simp at hk,λk hk=>by simp at hk⟩,?_⟩
 .rw[e]
  show w.heap.size<=((putRow encStr (Sort.ahead w n) b 0 ys.toArray).heap++os).size;rw[Array.size_append,hsz2];omega
 .intro b' hb' hk
  exact hoth b' hb' λe=>hk k (by simp) c (e▸hβ)
 .intro b' cs hcs
  have hne:b'≠b:=λe=>by subst e;rw[hH]at hcs;cases hcs
  rw[hoth b' (hon.lt (by rw[hcs];simp)) hne];exact hon b' cs hcs
 .subst hl
  refine .inr ⟨b,c,_,T,hβ,hat,by rw[p1];exact hsz,by rw[wP,p1];simpa using hle,?_⟩;rw[wP,q58];have p2':(putCells encStr 0 ys.toArray arr).toList.take ys.length=ys.map encStr:=by simpa using p2
  rw[p2'];have:=HZ (β:=β) (H:=H) (ys.map obB)
  rwa [List.map_map]at this
theorem SA(b c:Nat)(l:List ByteArray)(w:World)(hH:Holds encStr w b 0 (qU l).toArray)(hb:b<w.heap.size)(hl:l.length<4611686018427387904):
  Calls Tryz.prog 15 #[.slice (some ⟨b,0,none⟩) l.length c] w λe w'=>e= .returned (.tuple #[])/\ ∃n os,w'=grow (putRow encStr (Sort.ahead w n) b 0 ((qU l).mergeSort λx y=>decide (x<=y)).toArray) os:=by
 have h:(qU l).length=l.length:=by simp[qU]
 have:=calls_of_every_depth λD=>AnyS.slices_Sort_string_alone U2 D b 0 c (qU l) w hH hb (by omega)
 rw[h]at this;exact this
theorem Va(l:List ByteArray):(srB l).length=l.length:=by simp[srB,qU]
theorem q30{l:List ByteArray}{x:ByteArray}(h:x∈srB l):x∈l:=by
 obtain⟨y,hy,rfl⟩:=List.mem_map.1 h;have:=(List.mergeSort_perm (qU l) _).subset hy;obtain⟨z,hz,rfl⟩:=List.mem_map.1 this
 rwa [EN]
theorem Xw(l:List ByteArray)(hl:l.length<4611686018427387904):SigG Tryz.prog 15 [.c (.one (.gs 100000 l.length))] [(100000,.grow 1 (qI .str l))] AY [(100000,some (.grow 1 (qI .str (srB l))))]:=by
 refine⟨by kernel_rfl,λvs w H β hargs hkin _ hon=>?_⟩;have hk:=hkin _ q5f
 match vs,hargs with
 |[v],⟨hv,_⟩=>
  have hv:(β 100000=none/\l.length=0/\v= .slice none 0 0)\/ ∃b c,β 100000=some (b,c)/\v= .slice (some ⟨b,0,none⟩) l.length c:=hv;have hnil: ∀(p:Option Addr)(c:Nat),l=[]->Calls Tryz.prog 15 #[.slice p 0 c] w λe w'=>e= .returned (.tuple #[])/\w'=w:=λp c _=>Any.slices_Sort_string_none U2 p c w
  have hfin: ∀(p:Option Addr)(c:Nat),l=[]->v= .slice p 0 c->Calls Tryz.prog 15 #[v] w λe w'=> ∃v,∃H':Heap,∃β':Bm,e= .returned v/\Step w H β (kwOf [(100000,.grow 1 (qI .str l))] [(100000,some (.grow 1 (qI .str (srB l))))]) (qu [(100000,.grow 1 (qI .str l))] [(100000,some (.grow 1 (qI .str (srB l))))]) (jk [(100000,some (.grow 1 (qI .str (srB l))))]) w' H' β'/\AY.sat β' H' v/\ ∀k b,(k,some b)∈[(100000,some (Blk.grow 1 (qI .str (srB l))))]->b.rep β' w' H' k:=by
   intro p c h0 hv;rw[hv];refine(hnil p c h0).mono λe w'⟨he,hw⟩=>⟨_,H,β,he,by rw[hw];exact⟨rfl,rfl,rfl,q5B _,λ_ _ _=>rfl,Heap.Le.refl _,λb hb=> .inl hb,hon,λ_ _=>rfl,λk hk=>by simp[qu,look]at hk,λk hk=>by simp[qu,look]at hk⟩,⟨#[],rfl,trivial⟩,?_⟩
   intro k b hk';have hk':(k,some b)=(100000,some (Blk.grow 1 (qI .str (srB l)))):=by simpa using hk'
   cases hk';have:srB l=l:=q4V (by rw[Va,h0];rfl)|>.trans h0.symm;rw[this,hw];exact hk.1
  rcases hv with⟨_,h0,hv⟩|⟨b,c,hβ,hv⟩
  .exact hfin none 0 (q4V h0) hv
  .by_cases h0:l=[]
   .exact hfin _ c h0 (by rw[hv,h0];rfl)
   .rcases hk.1 with⟨h1,_⟩|⟨b',c',arr,T,h1,h2,h3,h4,h5⟩
    .rw[hβ]at h1;cases h1
    .rw[hβ]at h1;cases h1
     rw[wP]at h4 h5;subst hv;refine(SA b c l w (holds_of h2 h5) (hk.2 b c hβ).2 hl).mono λe w'⟨he,n,os,hw⟩=>?_
     obtain⟨p1,p2⟩:=O5 hβ h2 (hk.2 b c hβ).1 hon h3 (ys:=(qU l).mergeSort λx y=>decide (x<=y)) (by simpa[qU]using h4) hw rfl;refine⟨_,H,β,he,p1,⟨#[],rfl,trivial⟩,?_⟩;intro k b hk';have hk':(k,some b)=(100000,some (Blk.grow 1 (qI .str (srB l)))):=by simpa using hk'
     cases hk';exact p2
abbrev b0(b:List Bd):Bd:=b.getD 0 .u
abbrev b1(b:List Bd):Bd:=b.getD 1 .u
abbrev b2(b:List Bd):Bd:=b.getD 2 .u
abbrev b3(b:List Bd):Bd:=b.getD 3 .u
theorem Bnds.h1{t:Ty}{b:List Bd}{x:t.den}(h:Bnds [t] b x):Bnd t (b0 b) x:=by
 match b,h with
 |[_],h=>exact h
 |[],h=>exact h.elim
 |_::_::_,h=>exact h.elim
theorem Bnds.h2{t u:Ty}{b:List Bd}{x:t.den}{y:u.den}(h:Bnds [t,u] b (x,y)):Bnd t (b0 b) x/\Bnd u (b1 b) y:=by
 match b,h with
 |[_,_],h=>exact h
 |[],h=>exact h.elim
 |[_],h=>exact h.2.elim
 |_::_::_::_,h=>exact h.2.elim
theorem Bnds.h3{t u v:Ty}{b:List Bd}{x:t.den}{y:u.den}{z:v.den}(h:Bnds [t,u,v] b (x,y,z)):Bnd t (b0 b) x/\Bnd u (b1 b) y/\Bnd v (b2 b) z:=by
 match b,h with
 |[_,_,_],h=>exact h
 |[],h=>exact h.elim
 |[_],h=>exact h.2.elim
 |[_,_],h=>exact h.2.2.elim
 |_::_::_::_::_,h=>exact h.2.2.elim
theorem q35{ls:List Nat}{e:Nat}(h: ∀u∈ls,Bnd (.nat .u32) (.n e) u)(he:e<=4294967295): ∀u∈ls,u<4294967296:=λu hu=>Nat.lt_succ_of_le (q5C (h u hu) he)
theorem q0E{ls:List Nat}(h: ∀u∈ls,Bnd (.nat .u32) (.n 4294967295) u): ∀u∈ls,u<4294967296:=q35 h (q5B _)
theorem EJ{ls:List Nat}{m:Nat}(h: ∀u∈ls,u<4294967296)(hl:ls.length<=m):qR (qe ls) (32*m):=by
 refine q5E (zV ls h) ?_;rw[show(4294967296:Nat)=2^32 from rfl,<-Nat.pow_mul];exact q5S (by decide) (Nat.mul_le_mul_left _ hl)
theorem K7{x y a b:Nat}(h:qR x a)(k:qR y b):qR (x+y) (max a b+1):=by
 have h:=qr (Nat.le_max_left a b) h;have k:=qr (Nat.le_max_right a b) k;unfold qR at*;rw[q5U];omega
theorem Q5{x y a b:Nat}(h:qR x a)(k:qR y b):qR (x*y) (a+b):=by
 unfold qR at*;rw[q5R];exact Nat.mul_lt_mul'' h k
theorem FE{x y a:Nat}(h:qR x a)(k:y<=x):qR y a:=q5D k h
theorem Q3{x y a b:Nat}(h:le2 x a)(k:le2 y b):le2 (x*y) (a+b):=by
 unfold le2 at*;rw[q5R];exact q5N h k
theorem K0{x a:Nat}(h:le2 x a):qR x (a+1):=by
 unfold le2 at h;unfold qR
 rw[q5U];have:0<2^a:=q5T (by decide);omega
theorem jI{x a:Nat}(h:qR x a):le2 x a:=q5z h
theorem ZK{x y a b:Nat}(h:qR x a)(k:qR y b):qR (Nat.gcd x y) (max a b):=by
 rcases q5x x with e|e
 .subst e;rw[Nat.gcd_zero_left];exact qr (Nat.le_max_right _ _) k
 .exact qr (Nat.le_max_left _ _) (FE h (Nat.gcd_le_left _ e))
theorem K8{x b:Nat}(h:Nat.blt x (2^b)=true):qR x b:=by unfold qR;simpa using h
theorem qx{a:WA}(h:a.ok)(k:a.wd=1):(WV.c (.one a)).ok:=⟨h,k⟩
theorem SX{t:Ty}{b:Bd}{x:t.den}(h:Bnd t b x):(WV.c (.agg [.dt t b x])).ok:=v8 h
theorem q4e{k:IntKind}{z:Int}:(WC.one (.kn k z)).ok:=⟨trivial,rfl⟩
theorem Yv{v:Value}(h:v.oneC=true):(WC.one (.vl v)).ok:=⟨h,rfl⟩
theorem zx:(WV.tup []).ok:=λx hx=>by simp at hx
theorem je{x:WC}{l:List WC}(h:x.ok)(k:(WV.tup l).ok):(WV.tup (x::l)).ok:=λy hy=>by
 rcases q5d.1 hy with rfl|hy
 .exact h
 .exact k y hy
theorem frzO{P:Program}{f:FuncId}{ts:List Ty}{x:dens ts}{d n w nb:Nat}{t:Ty}{e:Bd}{l:List t.den}(h:SigG P f (argsE ts x) [] (WV.c (.one (.gs d n w nb))).exp [(d,some (WB.gro t e l).exp)])(h0:0<t.w)(hn:n=l.length)(b:Bd):
  Sig P f (argsE ts x) (WV.c (.one (.dt (.sl t) b l))).exp:=by
 subst hn;exact q0w (cells:=jc t l) (vC t l) h0 (jJ t l).symm h
open Go Go.Proofs Go.Shelf Go.Sort Go.RowKit
theorem E6(l:List ByteArray):(qU l).length=l.length:=by simp[qU]
theorem In(l:List ByteArray):(cmB l).length<=l.length:=by
 rw[cmB,q58,<-E6 l];exact Lib.compact_length_le _
theorem Po(l:List ByteArray):(cmF l).length=l.length:=by
 have:=In l;rw[cmB,q58]at this;simp only[cmF,q58,q55,List.length_replicate];omega
theorem FH{zs:List (List UInt8)}{x:List UInt8}(h:x∈Lib.compact zs):x∈zs:=by
 unfold Lib.compact Lib.compactUpTo at h;obtain⟨i,hi,rfl⟩:=List.mem_map.1 h;have hi':i<zs.length:=List.mem_range.1 (q5g.1 hi).1;simp[getElem!_pos,hi']
theorem YS{l:List ByteArray}{x:ByteArray}(h:x∈cmF l):x∈l\/x=obB []:=by
 obtain⟨y,hy,rfl⟩:=List.mem_map.1 h;rcases q5c.1 hy with hy|hy
 .obtain⟨z,hz,rfl⟩:=List.mem_map.1 (FH hy)
  exact .inl (by rwa [EN])
 .exact .inr (by rw[List.eq_of_mem_replicate hy])
theorem LI(b c:Nat)(l:List ByteArray)(w:World)(hH:Holds encStr w b 0 (qU l).toArray)(hl:l.length<4611686018427387904)(hc:l.length<=c):
  Calls Tryz.prog 17 #[.slice (some ⟨b,0,none⟩) l.length c] w λe w'=>e= .returned (.slice (some ⟨b,0,none⟩) (cmB l).length c)/\ ∃q,w'=putRow encStr (Sort.ahead w q) b 0 (Lib.compact (qU l)++List.replicate (l.length-(Lib.compact (qU l)).length) []).toArray:=by
 have h:=calls_of_every_depth λD=>AnyS.slices_Compact_string_in U3 D b 0 c (qU l) w hH (by rw[E6];omega) (by rw[E6];exact hc)
 rw[E6]at h;have e:(cmB l).length=(Lib.compact (qU l)).length:=by simp[cmB]
 rw[e];exact h
theorem P4(l:List ByteArray)(hl:l.length<4611686018427387904):SigG Tryz.prog 17 [.c (.one (.gs 100000 l.length))] [(100000,.grow 1 (qI .str l))] (.c (.one (.gs 100000 (cmB l).length))) [(100000,some (.grow 1 (qI .str (cmF l))))]:=by
 refine⟨by kernel_rfl,λvs w H β hargs hkin _ hon=>?_⟩;have hk:=hkin _ q5f
 match vs,hargs with
 |[v],⟨hv,_⟩=>
  have hv:(β 100000=none/\l.length=0/\v= .slice none 0 0)\/ ∃b c,β 100000=some (b,c)/\v= .slice (some ⟨b,0,none⟩) l.length c:=hv
  have hfin: ∀(p:Option Addr)(c:Nat),l=[]->v= .slice p 0 c->(Atom.gs 100000 0).sat β H v->Calls Tryz.prog 17 #[v] w λe w'=> ∃v,∃H':Heap,∃β':Bm,e= .returned v/\Step w H β (kwOf [(100000,.grow 1 (qI .str l))] [(100000,some (.grow 1 (qI .str (cmF l))))]) (qu [(100000,.grow 1 (qI .str l))] [(100000,some (.grow 1 (qI .str (cmF l))))]) (jk [(100000,some (.grow 1 (qI .str (cmF l))))]) w' H' β'/\(AV.c (.one (.gs 100000 (cmB l).length))).sat β' H' v/\ ∀k b,(k,some b)∈[(100000,some (Blk.grow 1 (qI .str (cmF l))))]->b.rep β' w' H' k:=by
   intro p c h0 hv hs;have e1:(cmB l).length=0:=by have:=In l;rw[h0]at this⊢;simpa using this
   have e2:cmF l=l:=(q4V (by rw[Po,h0];rfl)).trans h0.symm;rw[e1,e2];have hc:Calls Tryz.prog 17 #[.slice p 0 c] w λe w'=>e= .returned (.slice p 0 c)/\w'=w:=calls_of_every_depth λD=>AnyS.slices_Compact_string_empty_in U3 D p c w
   rw[hv]at hs⊢;refine hc.mono λe w'⟨he,hw⟩=>⟨_,H,β,he,by rw[hw];exact⟨rfl,rfl,rfl,q5B _,λ_ _ _=>rfl,Heap.Le.refl _,λb hb=> .inl hb,hon,λ_ _=>rfl,λk hk=>by simp[qu,look]at hk,λk hk=>by simp[qu,look]at hk⟩,hs,?_⟩
   intro k b hk';have hk':(k,some b)=(100000,some (Blk.grow 1 (qI .str l))):=by simpa using hk'
   cases hk';rw[hw];exact hk.1
  rcases hv with⟨hn,h0,hv⟩|⟨b,c,hβ,hv⟩
  .exact hfin none 0 (q4V h0) hv (.inl ⟨hn,rfl,hv⟩)
  .by_cases h0:l=[]
   .exact hfin _ c h0 (by rw[hv,h0];rfl) (.inr ⟨b,c,hβ,by rw[hv,h0];rfl⟩)
   .rcases hk.1 with⟨h1,_⟩|⟨b',c',arr,T,h1,h2,h3,h4,h5⟩
    .rw[hβ]at h1;cases h1
    .rw[hβ]at h1;cases h1
     rw[wP]at h4 h5;subst hv;refine(LI b c l w (holds_of h2 h5) hl (by omega)).mono λe w'⟨he,q,hw⟩=>?_
     have hcl:=In l;rw[cmB,q58]at hcl;obtain⟨p1,p2⟩:=O5 (os:= #[]) hβ h2 (hk.2 b c hβ).1 hon h3 (ys:=Lib.compact (qU l)++List.replicate (l.length-(Lib.compact (qU l)).length) []) (by simp only[q55,List.length_replicate];omega) (hw.trans (grow_empty _).symm) rfl;refine⟨_,H,β,he,p1,.inr ⟨b,c,hβ,rfl⟩,?_⟩;intro k b hk';have hk':(k,some b)=(100000,some (Blk.grow 1 (qI .str (cmF l)))):=by simpa using hk'
     cases hk';exact p2
theorem SC{w w':World}{H:Heap}{β:Bm}(hon:Heap.On H w)(h:Below w.heap.size w w'):Step w H β [] [] [] w' H β:=
 ⟨h.os,h.tape,h.output,h.size,λb hb _=>h.block b hb,Heap.Le.refl _,λb hb=> .inl hb,λb cs hcs=>by rw[h.block b (hon.lt (by rw[hcs];simp))];exact hon b cs hcs,λ_ _=>rfl,λk hk=>by simp at hk,λk hk=>by simp at hk⟩
theorem WM(l:List ByteArray)(hl:l.length<=1048576)(hj:(jnB l).size<=1048576):SigG Tryz.prog 16 (argsE [.sl .str,.str] (l,jZ)) [] (.c (.one (.val (.string (jnB l))))) []:=by
 refine⟨by kernel_rfl,λvs w H β hargs _ _ hon=>?_⟩
 match vs,hargs with
 |[v0,v1],⟨e0,⟨e1,_⟩,_⟩=>
  have e1:v1= .string jZ:=e1;subst e1;have e0:(flP (l.flatMap (cellsC .str)) l.length).p H v0:=e0;obtain⟨a,c,rfl,hc,hcs⟩:=e0;have hz:qU l=l.map (·.data.toList):=rfl
  have fin:Calls Tryz.prog 16 #[.slice a l.length c,.string jZ] w λe w'=>e= .returned (.string (jnB l))/\Below w.heap.size w w':=by
   by_cases h0:l=[]
   .subst h0
    refine(Any.strings_Join_none U1 Q0 a c jZ w).mono λe w'⟨he,hw⟩=>⟨he,hw▸Below.refl _ _⟩
   .rcases hcs with h|⟨b,off,arr,rfl,hH,hs⟩
    .have:=congrArg List.length h
     rw[<-List.length_eq_zero_iff]at h0;have e:(l.flatMap (cellsC .str)).length=l.length:=(jJ .str l).trans (Nat.mul_one _);rw[e]at this;exact absurd this h0
    .obtain⟨T,fz,hw⟩:=hon b arr hH
     have hv:=KN hs;have e:(l.flatMap (cellsC .str)).length=l.length:=(jJ .str l).trans (Nat.mul_one _);rw[e]at hv;refine Any.strings_Join U1 Q0 b off c l jZ w ?_ (Array.getElem?_eq_some_iff.1 hw).1 (by omega) hc ?_
     .intro j x hx
      have hj:j<l.length:=by rcases q5F j l.length with h|h;exact h;rw[q52 h]at hx;cases hx
      have:=congrArg (λx=>x[j]?) hv;simp only[q53 hj,q50,Array.getElem?_toList,List.getElem?_map,hx,q60]at this;simp only[World.cell?,hw];exact this
     .have:(Lib.join (l.map (·.data.toList)) jZ.data.toList).length=(jnB l).size:=(Kd _).symm
      omega
  exact fin.mono λe w'⟨he,hb⟩=>⟨_,H,β,he,SC hon hb,⟨rfl,rfl⟩,λk b hk=>by simp at hk⟩
theorem SB(s:ByteArray):(qY s).length<=s.size+1:=by
 rw[V6];have:=Lib.countB_le jZ (q5B 1) s.size s (q5B _);have e:jZ.size=1:=rfl;omega
theorem Hf(sep:ByteArray)(save:Nat): ∀(k:Nat)(s x:ByteArray),x∈Lib.splitB sep save k s->x.size<=s.size
 |0,s,x,h=>by simp[Lib.splitB]at h;rw[h];exact q5B _
 |k+1,s,x,h=>by
  unfold Lib.splitB at h;split at h
  .simp at h;rw[h];exact q5B _
  .rcases q5d.1 h with rfl|h
   .rw[ByteArray.size_extract];omega
   .have:=Hf sep save k _ x h
    rw[ByteArray.size_extract]at this;omega
theorem sp_b{s:ByteArray}(h:s.size<=4096): ∀x∈qY s,Bnd .str (.n 4096) x:=λx hx=>q5C (Hf _ _ _ s x hx) h
theorem sr_b{l:List ByteArray}{e:Bd}(h: ∀u∈l,Bnd .str e u): ∀u∈srB l,Bnd .str e u:=λu hu=>h u (q30 hu)
theorem q3S{l:List ByteArray}{n:Nat}(h: ∀u∈l,Bnd .str (.n n) u): ∀u∈cmF l,Bnd .str (.n n) u:=λu hu=>by
 rcases YS hu with h1|h1
 .exact h u h1
 .rw[h1];exact q5X n
abbrev X0:FO:=⟨14,[.str,.str],[.n 4096,.n 1],λz=>(λ(s p:ByteArray)=>[p=jZ,s.size<=4096]) z.1 z.2,λk b z=>(λ(s p:ByteArray)=> .c (.one (.gs k (qY s).length 1 4097))) z.1 z.2,λb z=>(λ(s p:ByteArray)=> .gro .str (.n 4096) (qY s)) z.1 z.2⟩
theorem X1:X0.OK Tryz.prog:=by
 refine⟨λd x hx hp=>?_,λ_ _ _=>⟨rfl,rfl⟩,λd b x hx hp=>?_⟩
 .obtain⟨s,p⟩:=x
  have h1:s.size<=4096:=hx.1;have h2:p=jZ:=hp _ q5f;subst h2;exact V9 d s (by omega)
 .obtain⟨s,p⟩:=x
  have h1:s.size<=4096:=hp _ (q5e _ q5f);exact⟨qx (show(qY s).length<=4097 from by have:=SB s;omega) rfl,sp_b h1⟩
abbrev WZ:CtrO Tryz.prog:=FO.c X1
abbrev ZV:FV:=⟨15,true,.str,.n 4096,1048576,[],[],λl lo n cap z=>[n=l.length],λk b l lo n cap z=>wO,λl lo n cap z=>srB l⟩
theorem ZW:ZV.OK Tryz.prog:=by
 refine⟨λl lo n cap x hs hx h1 h2 hp=>?_,λ_ _ _ _ _ _ _=>rfl,λ_ _ _ _ _ _=>rfl,λk b l lo n cap x hx hs h1 h2 hp=>⟨Dm,sr_b hs⟩⟩;have h3:n=l.length:=hp _ q5f;have h4:n<=1048576:=h2;subst h3;exact Xw l (by omega)
abbrev ZU:CtrS Tryz.prog:=FV.c ZW
abbrev RT:FV:=⟨17,true,.str,.n 4096,1048576,[],[],λl lo n cap z=>[n=l.length],λk b l lo n cap z=> .c (.one (.gs k (cmB l).length 1 1048576)),λl lo n cap z=>cmF l⟩
theorem RU:RT.OK Tryz.prog:=by
 refine⟨λl lo n cap x hs hx h1 h2 hp=>?_,λ_ _ _ _ _ _ _=>rfl,λ_ _ _ _ _ _=>rfl,λk b l lo n cap x hx hs h1 h2 hp=>?_⟩
 .have h3:n=l.length:=hp _ q5f
  have h4:n<=1048576:=h2;subst h3;exact P4 l (by omega)
 .have h3:n=l.length:=hp _ q5f
  have h4:n<=1048576:=h2;exact⟨qx (show(cmB l).length<=1048576 from by have:=In l;omega) rfl,q3S hs⟩
abbrev RS:CtrS Tryz.prog:=FV.c RU
abbrev ZQ:FI:=⟨16,[.sl .str,.str],[.s 1048576 (.n 4096),.n 1],λz=>(λ(l:List ByteArray)(p:ByteArray)=>[p=jZ,(jnB l).size<=1048576]) z.1 z.2,λb z=>(λ(l:List ByteArray)(p:ByteArray)=> .c (.one (.dt .str (.n 1048576) (jnB l)))) z.1 z.2⟩
theorem ZR:ZQ.OK Tryz.prog:=by
 refine⟨λx hx hp=>?_,λ_ _=>rfl,λb x hx hp=>?_⟩
 .obtain⟨l,p⟩:=x
  have h2:p=jZ:=hp _ q5f;have h3:(jnB l).size<=1048576:=hp _ (q5e _ q5f);subst h2;exact WM l hx.1.1 h3
 .obtain⟨l,p⟩:=x
  have h3:(jnB l).size<=1048576:=hp _ (q5e _ q5f);exact qx h3 rfl
abbrev ZP:Ctr Tryz.prog:=FI.c ZR
end Go.Proofs.YtamiaelfnfnegaaGreatDoor.Sx
