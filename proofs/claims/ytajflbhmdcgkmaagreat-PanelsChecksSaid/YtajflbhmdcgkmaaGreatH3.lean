/-
Own laws, part 3. No condition.
-/
import Derived.Test.YtajflbhmdcgkmaaGreatH2
import Derived.LoopNIn
import Derived.Sort.LoopGhostIn
import Derived.ProofKit
namespace Go.Proofs.YtajflbhmdcgkmaaGreat.Sx
open Go Go.Proofs
set_option linter.unusedVariables false
set_option linter.unusedSimpArgs false
set_option maxRecDepth 20000
set_option maxHeartbeats 4000000
section
@[reducible] def dens:List Ty->Type
 |[]=>Unit
 |[t]=>t.den
 |t::r=>t.den×dens r
def Bnds:(ts:List Ty)->List Bd->dens ts->Prop
 |[],[],_=>True
 |[t],[b],x=>Bnd t b x
 |t::u::r,b::bs,x=>Bnd t b x.1/\Bnds (u::r) bs x.2
 |_,_,_=>False
def mkC(t:Ty)(b:Bd)(x:t.den):WC:=bif t.agg then .agg [.dt t b x]else .one (.dt t b x)
def argC(t:Ty)(x:t.den):AV:=bif t.agg then .c (.agg (qO t x))else .c (.one ((qO t x).headD (.val (.bool false))))
def argsE:(ts:List Ty)->dens ts->List AV
 |[],_=>[]
 |[t],x=>[argC t x]
 |t::u::r,x=>argC t x.1::argsE (u::r) x.2
def jh:(ts:List Ty)->List Bd->dens ts->List WV
 |[],_,_=>[]
 |[t],bs,x=>[.c (mkC t (bs.headD .u) x)]
 |t::u::r,bs,x=> .c (mkC t (bs.headD .u) x.1)::jh (u::r) bs.tail x.2
theorem Jg(t:Ty)(b:Bd)(x:t.den):(WV.c (mkC t b x)).exp=argC t x:=by
 unfold mkC argC
 cases t.agg with
 |true=>simp[WV.exp,WC.exp,zi]
 |false=>rfl
theorem w4: ∀(ts:List Ty)(bs:List Bd)(x:dens ts),(jh ts bs x).map WV.exp=argsE ts x
 |[],_,_=>rfl
 |[t],bs,x=>by simp only[jh,argsE,q5M,Jg,List.map_nil]
 |t::u::r,bs,x=>by simp only[jh,argsE,q5M,Jg,w4 (u::r)]
theorem Ty.w_one: ∀{t:Ty},t.agg=false->t.w=1
 | .nat _,_| .int _,_| .bool,_| .str,_| .mag,_| .sl _,_| .fn _,_| .pt _,_| .cl _ _,_=>rfl
 | .rat,h| .pr _ _,h| .st _,h=>by simp[Ty.agg]at h
theorem Id{t:Ty}{b:Bd}{x:t.den}(h:Bnd t b x):(mkC t b x).ok:=by
 unfold mkC
 cases ht:t.agg with
 |true=>exact v9 h
 |false=>exact⟨h,Ty.w_one ht⟩
theorem wH: ∀{ts:List Ty}{bs:List Bd}{x:dens ts},Bnds ts bs x-> ∀v∈jh ts bs x,v.ok
 |[],[],_,_,v,hv=>by simp[jh]at hv
 |[t],[b],x,h,v,hv=>by simp[jh]at hv;subst hv;exact Id h
 |t::u::r,b::bs,x,h,v,hv=>by
  simp only[jh,List.headD_cons,List.tail_cons,q5O]at hv;rcases hv with rfl|hv
  .exact Id h.1
  .exact wH (ts:=u::r) h.2 v hv
 |[],_::_,_,h,_,_=>h.elim
 |[_],[],_,h,_,_=>h.elim
 |[_],_::_::_,_,h,_,_=>h.elim
 |_::_::_,[],_,h,_,_=>h.elim
def BO:WC->Bool
 | .agg _=>true
 | .one _=>false
def beqB(a b:Bool):Bool:=(a&&b)||(!a&&!b)
theorem Vq{a b:Bool}(h:beqB a b=true):a=b:=by cases a<;>cases b<;>first|rfl|cases h
def CW(t:Ty):WV->Option (Bd×t.den)
 | .c x=>bif beqB (BO x) t.agg then(match reify t x.cells with
  |some (b,v,[])=>some (b,v)
  |_=>none)else none
 |_=>none
def zJ:(ts:List Ty)->List WV->Option (List Bd×dens ts)
 |[],[]=>some ([],())
 |[t],[v]=>match CW t v with
  |some (b,x)=>some ([b],x)
  |none=>none
 |t::u::r,v::vs=>match CW t v with
  |some (b,x)=>match zJ (u::r) vs with
   |some (bs,y)=>some (b::bs,(x,y))
   |none=>none
  |none=>none
 |_,_=>none
theorem Ed{t:Ty}{v:WV}{b:Bd}{x:t.den}(h:CW t v=some (b,x))(hv:v.ok):(∀β H u,v.exp.sat β H u->(argC t x).sat β H u)/\Bnd t b x:=by
 unfold CW at h;split at h
 .rename_i y
  cases hb:beqB (BO y) t.agg with
  |false=>rw[hb]at h;cases h
  |true=>
   rw[hb]at h;simp only[cond_true]at h
   have hb:=Vq hb;split at h
   .rename_i b' x' hr
    simp only[q6E,q6F]at h;obtain⟨rfl,rfl⟩:=h
    obtain⟨m,e1,i1,o1⟩:=vv hr;have e1:WAs.exp y.cells=m:=by rw[e1];simp[WAs.exp]
    subst e1;have hok:y.ok:=hv;refine⟨?_,(o1 (WC.ok_cells hok)).1⟩;unfold argC
    cases y with
    |agg l=>
     rw[<-hb];exact G0 (HK i1)
    |one a=>
     rw[<-hb]
     have ha:WAs.exp (WC.one a).cells=[a.exp.headD (.val (.bool false))]:=by
      have:=WC.exp_cells hok;rw[<-this];rfl
     rw[ha]at i1;show∀β H u,(AV.c (.one _)).sat β H u->_
     match hc:qO t x',i1 with
     |[c],i1=>exact G0 (LC i1.1)
   .cases h
 .cases h
theorem wq: ∀{ts:List Ty}{vs:List WV}{bs:List Bd}{x:dens ts},zJ ts vs=some (bs,x)->(∀v∈vs,v.ok)->VImps (vs.map WV.exp) (argsE ts x)/\Bnds ts bs x/\vs.length=ts.length
 |[],[],bs,x,h,_=>by simp[zJ]at h;subst h;exact⟨trivial,trivial,rfl⟩
 |[t],[v],bs,x,h,hv=>by
  simp only[zJ]at h
  cases h1:CW t v with
  |none=>rw[h1]at h;cases h
  |some q=>
   obtain⟨b,y⟩:=q;rw[h1]at h;simp only[q6E,q6F]at h;obtain⟨rfl,rfl⟩:=h
   obtain⟨h2,h3⟩:=Ed h1 (hv v (by simp));exact⟨⟨h2,trivial⟩,h3,rfl⟩
 |t::u::r,v::vs,bs,x,h,hv=>by
  simp only[zJ]at h
  cases h1:CW t v with
  |none=>rw[h1]at h;cases h
  |some q=>
   obtain⟨b,y⟩:=q;rw[h1]at h;simp only at h
   cases h4:zJ (u::r) vs with
   |none=>rw[h4]at h;cases h
   |some q=>
    obtain⟨bs',z⟩:=q;rw[h4]at h;simp only[q6E,q6F]at h;obtain⟨rfl,rfl⟩:=h
    obtain⟨h2,h3⟩:=Ed h1 (hv v q5Q);obtain⟨h5,h6,h7⟩:=wq h4 (λw hw=>hv w (q5P _ hw));exact⟨⟨h2,h5⟩,⟨h3,h6⟩,by simp[h7]⟩
 |[],_::_,_,_,h,_=>by simp[zJ]at h
 |[_],[],_,_,h,_=>by simp[zJ]at h
 |[_],_::_::_,_,_,h,_=>by simp[zJ]at h
 |_::_::_,[],_,_,h,_=>by simp[zJ]at h
def Bds.le:List Bd->List Bd->Bool
 |[],[]=>true
 |a::r,b::s=>a.le b&&Bds.le r s
 |_,_=>false
theorem Bnds.mono: ∀{ts:List Ty}{a b:List Bd}{x:dens ts},Bds.le a b=true->Bnds ts a x->Bnds ts b x
 |[],[],[],_,_,_=>trivial
 |[t],[a],[b],x,h,k=>by simp only[Bds.le,q5m]at h;exact Bnd.mono h.1 k
 |t::u::r,a::cs,b::bs,x,h,k=>by
  simp only[Bds.le,q5m]at h;exact⟨Bnd.mono h.1 k.1,Bnds.mono (ts:=u::r) h.2 k.2⟩
 |[],[],_::_,_,h,_=>by simp[Bds.le]at h
 |[],_::_,_,_,_,k=>k.elim
 |[_],[],_,_,_,k=>k.elim
 |[_],_::_::_,_,_,_,k=>k.elim
 |[_],[_],[],_,h,_=>by simp[Bds.le]at h
 |[_],[_],_::_::_,_,h,_=>by simp[Bds.le]at h
 |_::_::_,[],_,_,_,k=>k.elim
 |_::_::_,_::_,[],_,h,_=>by simp[Bds.le]at h
structure Ctr (P:Program) where
 f:FuncId
 ts:List Ty
 bs:List Bd
 pre:dens ts->List Prop
 res:List Bd->dens ts->WV
 sig: ∀x,Bnds ts bs x->(∀p∈pre x,p)->Sig P f (argsE ts x) (res bs x).exp
 hexp: ∀b x,(res b x).exp=(res bs x).exp
 okr: ∀b x,Bnds ts b x->(∀p∈pre x,p)->(res b x).ok
structure CtrO (P:Program) where
 f:FuncId
 ts:List Ty
 bs:List Bd
 pre:dens ts->List Prop
 res:Nat->List Bd->dens ts->WV
 blk:List Bd->dens ts->WB
 sig: ∀d x,Bnds ts bs x->(∀p∈pre x,p)->vQ P f (argsE ts x) [] (res d bs x).exp [(d,some (blk bs x).exp)]
 hexp: ∀d b x,(res d b x).exp=(res d bs x).exp/\(blk b x).exp=(blk bs x).exp
 okr: ∀d b x,Bnds ts b x->(∀p∈pre x,p)->(res d b x).ok/\(blk b x).ok
structure CtrB (P:Program) where
 f:FuncId
 t:Ty
 tb:Bd
 ts:List Ty
 bs:List Bd
 pre:t.den->dens ts->List Prop
 res:Bd->List Bd->t.den->dens ts->WV
 new:t.den->dens ts->t.den
 nb:Bd->List Bd->Bd
 sig: ∀s x,Bnd t tb s->Bnds ts bs x->(∀p∈pre s x,p)->vQ P f (.c (.one (.loc 100000 0))::argsE ts x) [(100000,.rigid (qO t s))] (res tb bs s x).exp [(100000,some (.rigid (qO t (new s x))))]
 hexp: ∀b bb s x,(res b bb s x).exp=(res tb bs s x).exp
 hids: ∀k s x,(res tb bs s x).exp.men k=false
 okr: ∀b bb s x,Bnd t b s->Bnds ts bb x->(∀p∈pre s x,p)->(res b bb s x).ok/\Bnd t (nb b bb) (new s x)
def sA(g:Bool)(w k lo n cap:Nat):Atom:=bif g then .gs k n else .sl k (lo*w) n cap
def sB(g:Bool)(t:Ty)(l:List t.den):Blk:=bif g then .grow t.w (je t l)else .rigid (je t l)
def mkB(g:Bool)(t:Ty)(e:Bd)(l:List t.den):WB:=bif g then .gro t e l else .arr t e l
def mkS(g:Bool)(t:Ty)(k lo n cap nb:Nat):WA:=bif g then .gs k n t.w nb else .ls k (some lo) n cap t.w nb
structure CtrS (P:Program) where
 f:FuncId
 g:Bool
 t:Ty
 e:Bd
 m:Nat
 ts:List Ty
 bs:List Bd
 pre:List t.den->Nat->Nat->Nat->dens ts->List Prop
 res:Nat->List Bd->List t.den->Nat->Nat->Nat->dens ts->WV
 new:List t.den->Nat->Nat->Nat->dens ts->List t.den
 sig: ∀l lo n cap x,(∀u∈l,Bnd t e u)->Bnds ts bs x->n<=cap->n<=m->(∀p∈pre l lo n cap x,p)->vQ P f (.c (.one (sA g t.w 100000 lo n cap))::argsE ts x) [(100000,sB g t l)] (res 100000 bs l lo n cap x).exp [(100000,some (sB g t (new l lo n cap x)))]
 hexp: ∀k b l lo n cap x,(res k b l lo n cap x).exp=(res k bs l lo n cap x).exp
 hren: ∀k l lo n cap x,(res 100000 bs l lo n cap x).exp.map (ren 100000 k)=(res k bs l lo n cap x).exp
 okr: ∀k b l lo n cap x,Bnds ts b x->(∀u∈l,Bnd t e u)->n<=cap->n<=m->(∀p∈pre l lo n cap x,p)->(res k b l lo n cap x).ok/\ ∀u∈new l lo n cap x,Bnd t e u
section
variable {P:Program} {bl:Nat->Option WB} {ty:TypeId}
def A4(f:FuncId):WV->Bool
 | .c (.one (.vl u))=>isFn f (.vl u)
 | .c (.one (.dt (.fn g) _ _))=>Nat.beq f g
 |_=>false
theorem AR{f:FuncId}{v:WV}(h:A4 f v=true):v.exp=vFun f:=by
 unfold A4 at h;split at h
 .rename_i u
  have:=NJ h;cases this;rfl
 .have:=q68 h;subst this;rfl
 .cases h
def PD(C:Ctr P)(vs:List WV):HR:=
 match vs with
 |v::vs=>bif A4 C.f v then(match zJ C.ts vs with
  |some (bs,x)=>bif Bds.le bs C.bs then .ok (C.pre x) (C.res bs x) [] []else .bad
  |none=> .bad)else .bad
 |[]=> .bad
theorem Cw{fx:Operand}{xs:Array Operand}{ts:Array TypeId}:(Op.operands (.call {callee:= .value fx,args:=xs,argTypes:=ts})).toList=fx::xs.toList:=by
 simp[Op.operands,Call.operands]
theorem q1u{C:Ctr P}{fx:Operand}{xs:Array Operand}{ts:Array TypeId}{vs:List WV}(hl:vs.length=xs.size+1):
  HOk P (.call {callee:= .value fx,args:=xs,argTypes:=ts}) ty (fx::xs.toList) vs bl (PD C vs):=by
 unfold PD;split
 .rename_i v vs
  cases hf:A4 C.f v with
  |false=>exact trivial
  |true=>
   simp only[cond_true];split
   .rename_i bs x hx
    cases hb:Bds.le bs C.bs with
    |false=>exact trivial
    |true=>
     intro hv _ hvc kin hk _;rw[qn hk];obtain⟨h1,h2,h3⟩:=wq hx (λw hw=>hv w (q5P _ hw));refine⟨?_,C.okr bs x h2 hvc,qx⟩;have:=Bs h1 (C.sig x (Bnds.mono hb h2) hvc);rw[C.hexp bs x];show OpOk P _ _ ((fx,v.exp)::List.zip xs.toList (vs.map WV.exp)) _ _ _;rw[AR hf];exact Cl (by simp at hl;simp[hl]) this
   .exact trivial
 .exact trivial
def MO(C:CtrO P)(d:Nat)(vs:List WV):HR:=
 match vs with
 |v::vs=>bif A4 C.f v then(match zJ C.ts vs with
  |some (bs,x)=>bif Bds.le bs C.bs then .ok (C.pre x) (C.res d bs x) [] [(d,some (C.blk bs x))]else .bad
  |none=> .bad)else .bad
 |[]=> .bad
theorem WN{C:CtrO P}{d:Nat}{fx:Operand}{xs:Array Operand}{ts:Array TypeId}{vs:List WV}(hl:vs.length=xs.size+1):
  HOk P (.call {callee:= .value fx,args:=xs,argTypes:=ts}) ty (fx::xs.toList) vs bl (MO C d vs):=by
 unfold MO;split
 .rename_i v vs
  cases hf:A4 C.f v with
  |false=>exact trivial
  |true=>
   simp only[cond_true];split
   .rename_i bs x hx
    cases hb:Bds.le bs C.bs with
    |false=>exact trivial
    |true=>
     intro hv _ hvc kin hk _;rw[qn hk];obtain⟨h1,h2,h3⟩:=wq hx (λw hw=>hv w (q5P _ hw));obtain⟨o1,o2⟩:=C.okr d bs x h2 hvc;refine⟨?_,o1,vV o2⟩;have:=Bs h1 (C.sig d x (Bnds.mono hb h2) hvc);rw[(C.hexp d bs x).1];show OpOk P _ _ ((fx,v.exp)::List.zip xs.toList (vs.map WV.exp)) _ _ [(d,some (C.blk bs x).exp)];rw[AR hf,(C.hexp d bs x).2];exact Cl (by simp at hl;simp[hl]) this
   .exact trivial
 .exact trivial
def MN(C:CtrB P)(bl:Nat->Option WB)(vs:List WV):HR:=
 match vs with
 |v:: .c (.one (.loc k 0))::vs=>bif A4 C.f v then(match bl k with
  |some (.rig l)=>match reify C.t l with
   |some (b,s,[])=>match zJ C.ts vs with
    |some (bs,x)=>bif b.le C.tb&&Bds.le bs C.bs then .ok (C.pre s x) (C.res b bs s x) [k] [(k,some (.rig [.dt C.t (C.nb b bs) (C.new s x)]))]else .bad
    |none=> .bad
   |_=> .bad
  |_=> .bad)else .bad
 |_=> .bad
theorem L7(t:Ty)(x:t.den)(ρ:Nat->Nat):(argC t x).map ρ=argC t x:=by
 unfold argC;have h:(qO t x).map (Atom.map ρ)=qO t x:=C0 ρ _
 cases t.agg with
 |true=>simp only[cond_true,AV.map,Cmp.map,h]
 |false=>
  simp only[cond_false,AV.map,Cmp.map];have hl:=zj t x
  match hc:qO t x with
  |[]=>rfl
  |c::r=>
   rw[hc]at h;simp only[q5M,List.cons.injEq]at h;simp only[List.headD_cons,h.1]
theorem CX: ∀(ts:List Ty)(x:dens ts)(ρ:Nat->Nat),(argsE ts x).map (AV.map ρ)=argsE ts x
 |[],_,_=>rfl
 |[t],x,ρ=>by simp only[argsE,q5M,L7,List.map_nil]
 |t::u::r,x,ρ=>by simp only[argsE,q5M,L7,CX (u::r)]
theorem Xj{R:AV}(h: ∀k,R.men k=false)(ρ:Nat->Nat):R.map ρ=R:=by
 have ha: ∀a:Atom,(∀k,a.men k=false)->a.map ρ=a:=by
  intro a h
  cases a with
  |loc k o=>have:=h k;simp[Atom.men]at this
  |sl k a b c=>have:=h k;simp[Atom.men]at this
  |gs k n=>have:=h k;simp[Atom.men]at this
  |so k a b c=>have:=h k;simp[Atom.men]at this
  |mp k=>have:=h k;simp[Atom.men]at this
  |ks k a b c=>have:=h k;simp[Atom.men]at this
  |clo f ps=>
   match ps with
   |[]=>rfl
   |p::r=>have:=h p.1;simp[Atom.men]at this
  |_=>rfl
 have hl: ∀l:List Atom,(∀k,jA k l=false)->l.map (Atom.map ρ)=l:=by
  intro l
  induction l with
  |nil=>intro _;rfl
  |cons a l ih=>
   intro h;rw[q5M,ha a (λk=>by have:=h k;simp only[jA,Bool.or_eq_false_iff]at this;exact this.1),ih (λk=>by have:=h k;simp only[jA,Bool.or_eq_false_iff]at this;exact this.2)]
 have hc: ∀c:Cmp,(∀k,c.men k=false)->c.map ρ=c:=by
  intro c h
  cases c with
  |one a=>simp only[Cmp.map,ha a h]
  |agg l=>simp only[Cmp.map,hl l h]
 cases R with
 |c x=>simp only[AV.map,hc x h]
 |tup l=>
  simp only[AV.map]
  congr 1
  have: ∀l:List Cmp,(∀k,menC k l=false)->l.map (Cmp.map ρ)=l:=by
   intro l
   induction l with
   |nil=>intro _;rfl
   |cons a l ih=>
    intro h;rw[q5M,hc a (λk=>by have:=h k;simp only[menC,Bool.or_eq_false_iff]at this;exact this.1),ih (λk=>by have:=h k;simp only[menC,Bool.or_eq_false_iff]at this;exact this.2)]
  exact this l h
theorem OpOk.kin1{op:Op}{ins:List (Operand×AV)}{k:Nat}{b b':Blk}{R:AV}{B:Blk}(hi:BImp k b b')(h:OpOk P op ty ins [(k,b')] R [(k,some B)]):OpOk P op ty ins [(k,b)] R [(k,some B)]:=by
 intro dst pos after guard a w H β K Q h1 h2 h3 h4 hK;have e1:kwOf [(k,b)] [(k,some B)]=kwOf [(k,b')] [(k,some B)]:=by simp[kwOf,look]
 have e2:qX [(k,b)] [(k,some B)]=qX [(k,b')] [(k,some B)]:=by simp[qX,look]
 refine h dst pos after guard a w H β K Q h1 ?_ ?_ h4 ?_
 .intro p hp
  simp only[q5U]at hp;subst hp
  obtain⟨q1,q2⟩:=h2 (k,b) (by simp);exact⟨hi _ _ _ q1,q2⟩
 .intro p hp p' hp' hne
  simp only[q5U]at hp hp';subst hp hp';exact absurd rfl hne
 .intro v w' H' β' hs
  rw[<-e1,<-e2]at hs;exact hK v w' H' β' hs
theorem WM{C:CtrB P}{fx:Operand}{xs:Array Operand}{ts:Array TypeId}{vs:List WV}(hl:vs.length=xs.size+1):
  HOk P (.call {callee:= .value fx,args:=xs,argTypes:=ts}) ty (fx::xs.toList) vs bl (MN C bl vs):=by
 unfold MN;split
 .rename_i v k vs
  cases hf:A4 C.f v with
  |false=>exact trivial
  |true=>
   simp only[cond_true];split
   .rename_i l hbl
    split
    .rename_i b s hr
     split
     .rename_i bs x hx
      cases hb:b.le C.tb&&Bds.le bs C.bs with
      |false=>exact trivial
      |true=>
       simp only[q5m]at hb;intro hv hbk hvc kin hk hkb;rw[zD hk hkb hbl];obtain⟨h1,h2,h3⟩:=wq hx (λw hw=>hv w (q5P _ (q5P _ hw)));obtain⟨m,e1,i1,o1⟩:=vv hr;have e1:WAs.exp l=m:=by rw[e1];simp[WAs.exp]
       subst e1;have hs:=(o1 (hbk k _ hbl)).1;obtain⟨q1,q2⟩:=C.okr b bs s x hs h2 hvc;refine⟨?_,q1,vV (v9 q2)⟩;have hsig:=C.sig s x (Bnd.mono hb.1 hs) (Bnds.mono hb.2 h2) hvc
       have hren:=Jv (k:=k) (x':= .rigid (qO C.t s)) (y':= .rigid (qO C.t (C.new s x))) (R':=(C.res C.tb C.bs s x).exp) (ps':= .c (.one (.loc k 0))::argsE C.ts x) hsig
        (by simp only[q5M,CX];simp[AV.map,Cmp.map,Atom.map,Sx.ren]) (by show Blk.rigid _=_;rw[show(qO C.t s).map (Atom.map _)=qO C.t s from C0 _ _]) (Xj (λk=>C.hids k s x) _) (by show Blk.rigid _=_;rw[show(qO C.t (C.new s x)).map (Atom.map _)=_ from C0 _ _];rfl)
       have:=Bs (show VImps (.c (.one (.loc k 0))::vs.map WV.exp) (.c (.one (.loc k 0))::argsE C.ts x)from⟨JF,h1⟩) hren;rw[C.hexp b bs s x];show OpOk P _ _ ((fx,v.exp)::List.zip xs.toList (.c (.one (.loc k 0))::vs.map WV.exp)) [(k,.rigid (WAs.exp l))] _ [(k,some (.rigid (WAs.exp [.dt C.t (C.nb b bs) (C.new s x)])))];rw[AR hf,zi];exact OpOk.kin1 (zM i1) (Cl (by simp at hl;simp[<-hl]) this)
     .exact trivial
    .exact trivial
   .exact trivial
 .exact trivial
def slOf(g:Bool)(w:Nat):WA->Option (Nat×Nat×Nat×Nat×Nat)
 | .ls k lo n cap w' nb=>bif !g&&Nat.beq w w' then some (k,lo.getD 0,n,cap,nb)else none
 | .gs k n _ nb=>bif g then some (k,0,n,n,nb)else none
 |_=>none
theorem S1{g:Bool}{w:Nat}{a:WA}{k lo n cap nb:Nat}(h:slOf g w a=some (k,lo,n,cap,nb)):a.exp=[sA g w k lo n cap]/\(a.ok->n<=cap/\n<=nb):=by
 unfold slOf at h;split at h
 .rename_i k' lo' n' cap' w' nb'
  cases hb:!g&&Nat.beq w w' with
  |false=>rw[hb]at h;cases h
  |true=>
   rw[hb]at h;simp only[q5m,q5o]at hb;have:=q68 hb.2;subst this;simp only[cond_true,q6E,q6F]at h;obtain⟨rfl,rfl,rfl,rfl,rfl⟩:=h;rw[hb.1];exact⟨rfl,λh=>h⟩
 .cases g with
  |false=>cases h
  |true=>
   simp only[cond_true,q6E,q6F]at h;obtain⟨rfl,rfl,rfl,rfl,rfl⟩:=h;exact⟨rfl,λh=>⟨q6d _,h⟩⟩
 .cases h
def blOf(g:Bool)(t:Ty):WB->Option (Bd×List t.den)
 | .arr t' b l=>if h:(Ty.sl t').beq (.sl t)=true then(bif g then none else some (b,vi (t:= .sl t') (t':= .sl t) h l))else none
 | .gro t' b l=>if h:(Ty.sl t').beq (.sl t)=true then(bif g then some (b,vi (t:= .sl t') (t':= .sl t) h l)else none)else none
 |_=>none
theorem BJ{g:Bool}{t:Ty}{B:WB}{b:Bd}{l:List t.den}(h:blOf g t B=some (b,l)):B.exp=sB g t l/\(B.ok-> ∀x∈l,Bnd t b x):=by
 unfold blOf at h;split at h
 .split at h
  .rename_i hb
   have:=Ty.beq_eq hb;cases this
   cases g with
   |true=>cases h
   |false=>
    simp only[cond_false,q6E,q6F]at h;obtain⟨rfl,rfl⟩:=h;exact⟨rfl,λh=>h⟩
  .cases h
 .split at h
  .rename_i hb
   have:=Ty.beq_eq hb;cases this
   cases g with
   |false=>cases h
   |true=>
    simp only[cond_true,q6E,q6F]at h;obtain⟨rfl,rfl⟩:=h;exact⟨rfl,λh=>h⟩
  .cases h
 .cases h
theorem G8(g:Bool)(t:Ty)(e:Bd)(l:List t.den):(mkB g t e l).exp=sB g t l:=by cases g<;>rfl
theorem Ic{g:Bool}{t:Ty}{e:Bd}{l:List t.den}(h: ∀x∈l,Bnd t e x):(mkB g t e l).ok:=by cases g<;>exact h
theorem IC(g:Bool)(t:Ty)(l:List t.den)(ρ:Nat->Nat):(sB g t l).map ρ=sB g t l:=by
 have h:(je t l).map (Atom.map ρ)=je t l:=by rw[vU];exact C0 ρ _
 cases g
 .show Blk.rigid _=Blk.rigid _;rw[h]
 .show Blk.grow _ _=Blk.grow _ _;rw[h]
def MP(C:CtrS P)(bl:Nat->Option WB)(vs:List WV):HR:=
 match vs with
 |v:: .c (.one a)::vs=>bif A4 C.f v then(match slOf C.g C.t.w a with
  |some (k,lo,n,cap,nb)=>match bl k with
   |some B=>match blOf C.g C.t B with
    |some (b,l)=>match zJ C.ts vs with
     |some (bs,x)=>bif b.le C.e&&Nat.ble nb C.m&&Bds.le bs C.bs then .ok (C.pre l lo n cap x) (C.res k bs l lo n cap x) [k] [(k,some (mkB C.g C.t C.e (C.new l lo n cap x)))]else .bad
     |none=> .bad
    |none=> .bad
   |none=> .bad
  |none=> .bad)else .bad
 |_=> .bad
theorem WO {C : CtrS P} {fx : Operand} {xs : Array Operand} {ts : Array TypeId} {vs : List WV} (hl : vs.length = xs.size + 1) :
  HOk P (.call { callee := .value fx, args := xs, argTypes := ts }) ty (fx :: xs.toList) vs bl (MP C bl vs) := by
 unfold MP;split
 .rename_i v a vs
  cases hf : A4 C.f v with
  | false => exact trivial
  | true =>
   simp only [cond_true];split
   .rename_i k lo n cap nb hsl
    split
    .rename_i B hbl
     split
     .rename_i b l hB
      split
      .rename_i bs x hx
       cases hb : b.le C.e && Nat.ble nb C.m && Bds.le bs C.bs with
       | false => exact trivial
       | true =>
        simp only [q5m] at hb;intro hv hbk hvc kin hk hkb;rw [zD hk hkb hbl];obtain ⟨h1, h2, h3⟩ := wq hx (λw hw => hv w (q5P _ (q5P _ hw)));obtain ⟨a1, a2⟩ := S1 hsl;obtain ⟨b1, b2⟩ := BJ hB;have hao : a.ok := (hv (.c (.one a)) (q5P _ q5Q)).1;obtain ⟨n1, n2⟩ := a2 hao;have hm := q6e n2 (q6a hb.1.2);have hl' : ∀ u ∈ l, Bnd C.t C.e u := λu hu => Bnd.mono hb.1.1 (b2 (hbk k _ hbl) u hu)
        obtain ⟨q1, q2⟩ := C.okr k bs l lo n cap x h2 hl' n1 hm hvc;refine ⟨?_, q1, vV (Ic q2)⟩;have hsig := C.sig l lo n cap x hl' (Bnds.mono hb.2 h2) n1 hm hvc
        have hren := Jv (k := k) (x' := sB C.g C.t l) (y' := sB C.g C.t (C.new l lo n cap x)) (R' := (C.res k C.bs l lo n cap x).exp) (ps' := .c (.one (sA C.g C.t.w k lo n cap)) :: argsE C.ts x) hsig
         (by
          simp only [q5M, CX]
          congr 1
          unfold sA
          cases C.g <;> simp [AV.map, Cmp.map, Atom.map, Sx.ren]) (IC _ _ _ _) (C.hren k l lo n cap x) (IC _ _ _ _)
        have := Bs (show VImps (.c (.one (sA C.g C.t.w k lo n cap)) :: vs.map WV.exp) (.c (.one (sA C.g C.t.w k lo n cap)) :: argsE C.ts x) from ⟨JF, h1⟩) hren;rw [C.hexp k bs l lo n cap x]
        have hv1 : (WV.c (.one a)).exp = .c (.one (sA C.g C.t.w k lo n cap)) := by
         show AV.c (.one (a.exp.headD _)) = _;rw [a1]; rfl
        show OpOk P _ _ ((fx, v.exp) :: List.zip xs.toList ((WV.c (.one a)).exp :: vs.map WV.exp)) [(k, B.exp)] _ [(k, some (mkB C.g C.t C.e (C.new l lo n cap x)).exp)];rw [AR hf, hv1, b1, G8];exact Cl (by simp at hl; simp [<- hl]) this
      .exact trivial
     .exact trivial
    .exact trivial
   .exact trivial
 .exact trivial
def KW(a:WA)(l:List Nat)(vz:List Prop):Option (List Prop):=
 match asL a with
 |some ⟨.nat .u32,_,xs⟩=>some [xs=l]
 |_=>bif zm a then some vz else none
theorem II{a:WA}{l:List Nat}{vz vc:List Prop}(h:KW a l vz=some vc)(hz:(∀p∈vz,p)->l=[])(hvc: ∀p∈vc,p):AImps a.exp (qO (.sl (.nat .u32)) l):=by
 unfold KW at h;split at h
 .rename_i b xs hx
  simp only[q6E]at h;subst h
  have:xs=l:=hvc _ q5Q;subst this;rw[(Bf hx).1];exact vm
 .cases hn:zm a with
  |false=>rw[hn]at h;cases h
  |true=>
   rw[hn]at h;simp at h;subst h
   have:=wt hn;subst this
   rw[hz hvc];exact DT _
def KQ(a:WA)(n:Nat):Option (List Prop):=
 match a with
 | .dt .mag _ (m:Nat)=>some [m=n]
 |a=>KW a (limbs n) [n=0]
theorem Ih{a:WA}{n:Nat}{vc:List Prop}(h:KQ a n=some vc)(hvc: ∀p∈vc,p):AImps a.exp [.abs (natP n)]:=by
 unfold KQ at h;split at h
 .simp only[q6E]at h;subst h
  have:_=n:=hvc _ q5Q;subst this;exact vm
 .have:=II h (λhz=>by have:n=0:=hz _ q5Q;subst this;rfl) hvc
  rw[show[Atom.abs (natP n)]=qO .mag n from rfl,BM];exact this
def Po(l:List WA)(x:Rat):Option (List Prop):=
 match l with
 |[a0,a1,a2]=>match toB a0,KQ a1 x.num.natAbs,KW a2 (denL x.den) [x.den=1]with
  |some p,some v1,some v2=>some ((p=decide (x.num<0))::(v1++v2))
  |_,_,_=>none
 |_=>none
theorem Pp{l:List WA}{x:Rat}{vc:List Prop}(h:Po l x=some vc)(hvc: ∀p∈vc,p):AImps (WAs.exp l) (qO .rat x):=by
 unfold Po at h;split at h
 .rename_i a0 a1 a2
  split at h
  .rename_i p v1 v2 h0 h1 h2
   simp only[q6E]at h;subst h
   have hp:p=decide (x.num<0):=hvc _ q5Q;have hr: ∀q∈v1++v2,q:=λq hq=>hvc q (q5P _ hq)
   obtain⟨r1,r2⟩:=AllP.app hr;have e0:=Hj h0;have i1:=Ih h1 r1;have i2:=II h2 (λhz=>by have:x.den=1:=hz _ q5Q;simp[denL,this]) r2;rw[WAs.exp_cons,WAs.exp_cons,WAs.exp_cons,e0,hp]
   have:qO .rat x=[.val (.bool (decide (x.num<0)))]++([.abs (natP x.num.natAbs)]++(qO (.sl (.nat .u32)) (denL x.den)++[])):=by
    rw[<-JP];rfl
   rw[this];exact zX vm (zX i1 (zX i2 trivial))
  .cases h
 .cases h
def OB(x:Rat)(b:Nat):HR->HR
 | .ok vc (.c (.agg l)) ks Lw=>match Po l x with
  |some v=> .ok (vc++(v++[qM x.num.natAbs b,le2 x.den b])) (.c (.agg [.dt .rat (.n b) x])) ks Lw
  |none=> .bad
 |_=> .bad
theorem LImp.refl: ∀{l:List (Nat×Option Blk)},LImp l l
 |[]=>trivial
 |(_,none)::_=>⟨rfl,LImp.refl⟩
 |(_,some _)::_=>⟨rfl,λ_ _ _ h=>h,LImp.refl⟩
theorem WK{op:Op}{xs:List Operand}{vs:List WV}{x:Rat}{b:Nat}{r:HR}(h:HOk P op ty xs vs bl r):HOk P op ty xs vs bl (OB x b r):=by
 unfold OB;split
 .rename_i vc l ks Lw
  split
  .rename_i v hv0
   intro hv hb hvc kin hk hkb;obtain⟨r1,r2⟩:=AllP.app hvc;obtain⟨r3,r4⟩:=AllP.app r2;obtain⟨g1,g2,g3⟩:=h hv hb r1 kin hk hkb;refine⟨g1.weak (G0 (HK ?_)) LImp.refl,v9 ⟨r4 (qM _ _) (by simp),r4 (le2 _ _) (by simp)⟩,g3⟩;rw[zi];exact Pp hv0 r3
  .exact trivial
 .exact trivial
def OA(n b:Nat):HR->HR
 | .ok vc (.c (.one a)) ks Lw=>match KQ a n with
  |some v=> .ok (vc++(v++[qM n b])) (.c (.one (.dt .mag (.n b) n))) ks Lw
  |none=> .bad
 |_=> .bad
theorem WJ{op:Op}{xs:List Operand}{vs:List WV}{n b:Nat}{r:HR}(h:HOk P op ty xs vs bl r):HOk P op ty xs vs bl (OA n b r):=by
 unfold OA;split
 .rename_i vc a ks Lw
  split
  .rename_i v hv0
   intro hv hb hvc kin hk hkb;obtain⟨r1,r2⟩:=AllP.app hvc;obtain⟨r3,r4⟩:=AllP.app r2;obtain⟨g1,g2,g3⟩:=h hv hb r1 kin hk hkb;refine⟨g1.weak (G0 (LC ?_)) LImp.refl,⟨r4 (qM _ _) (by simp),rfl⟩,g3⟩;have:=Ih hv0 r3;rw[WA.exp_one g2.2]at this;exact this.1
  .exact trivial
 .exact trivial
structure Ext (P:Program) where
 g:Op->Option Tmp->(Nat->Option WB)->List WV->HR
 h: ∀{op:Op}{dst:Option Tmp}{ty:TypeId}{bl:Nat->Option WB}{vs:List WV},op.operands.toList.length=vs.length->HOk P op ty op.operands.toList vs bl (g op dst bl vs)
inductive Hint (P:Program) where
 |no
 |i (h:IH)
 |ix (j:Nat)
 |mk (h:MH)
 /--the same,and the number of the new block -/
 |to (h:MH) (K:Nat)
 |c (C:Ctr P)
 |o (C:CtrO P)
 |b (C:CtrB P)
 |s (C:CtrS P)
 |rat (x:Rat) (b:Nat)
 |mag (n b:Nat)
 |ext (X:Ext P)
 /--a fact of the caller's on this operation -/
 |any (vs:List WV) (R:WV) (ok:R.ok) (op:Op) (h: ∀ty,OpOk P op ty (List.zip op.operands.toList (vs.map WV.exp)) [] R.exp [])
def Hint.ih{P:Program}:Hint P->IH
 | .i h=>h
 |_=> .no
def Hint.ixo{P:Program}:Hint P->Option Nat
 | .ix j=>some j
 |_=>none
def Hint.mh{P:Program}:Hint P->MH
 | .mk h=>h
 | .to h _=>h
 |_=> .no
def Hint.dto{P:Program}(h:Hint P)(d:Nat):Nat:=match h with| .to _ K=>K|_=>d
def dOf:Option Tmp->Nat
 |some d=>d
 |none=>0
def q3G{P:Program}(G:List (Nat×Hint P))(h:Hint P)(vs:List WV):Hint P:=
 match h with
 | .no=>match vs with
  | .c (.one (.vl (.func (.func f) _ _)))::_=>match look G f with
   |some h=>h
   |none=> .no
  | .c (.one (.dt (.fn f) _ _))::_=>match look G f with
   |some h=>h
   |none=> .no
  |_=> .no
 |h=>h
def wop(G:List (Nat×Hint P))(bl:Nat->Option WB)(dst:Option Tmp)(op:Op)(h:Hint P)(vs:List WV):HR:=
 match op with
 | .move _=>match vs with|[v]=> .ok [] v [] []|_=> .bad
 | .assign _=>match vs with|[v]=> .ok [] v [] []|_=> .bad
 | .pick .. =>match vs with|[c,x,y]=>PH c x y|_=> .bad
 | .alloc t=>match vs,dst with|[],some d=>ML P t d|_,_=> .bad
 | .box _ _=>match vs,dst with|[v],some d=>wBox d v|_,_=> .bad
 | .build t parts=>MM P t parts vs
 | .buildSlice t len parts=>match dst with|some d=>DB P t len parts h.mh d vs|none=> .bad
 | .load t _=>match vs with|[v]=>PF P bl t v|_=> .bad
 | .store t _ _=>match vs with|[p,v]=>MW P bl t p v|_=> .bad
 | .nilCheck _=>match vs with|[v]=>wNil v|_=> .bad
 | .fieldAddr s _ f=>match vs with|[v]=>C8 P s f v|_=> .bad
 | .field s _ f=>match vs with|[v]=>MR P s f v|_=> .bad
 | .indexAddr t _ _=>match vs with|[p,v]=>EN P t h.ixo p v|_=> .bad
 | .index t _ _=>match vs with|[p,v]=>MS P t p v|_=> .bad
 | .extract _ i=>match vs with|[v]=>Hn i v|_=> .bad
 | .binOp b t _ _ _=>match vs with|[x,y]=>wBin P b t h.ih x y|_=> .bad
 | .unOp o _ _=>match vs with|[v]=>wUn o v|_=> .bad
 | .convert s d _=>match vs with|[v]=>PE P s d h.ih v|_=> .bad
 | .slice t _ lo hi mx=>MV P t bl lo hi mx vs
 | .makeSlice t _ _=>match vs,dst with|[p,v],some d=>MU P t h.mh d p v|_,_=> .bad
 | .makeFunc fn a b=>bif Nat.beq a.size 0&&Nat.beq b.size 0 then(match fn with| .func f=> .ok [] (.c (.one (.vl (.func (.func f) #[] #[])))) [] []|_=> .bad)else .bad
 | .call {callee:= .builtin .len,args:=aas,argTypes:=ts}=>match aas.toList,vs,ts.toList with|[_],[v],[t]=>wLen P t v|_,_,_=> .bad
 | .call {callee:= .builtin .clear,args:=aas,argTypes:=ts}=>match aas.toList,vs,ts.toList with|[_],[v],[t]=>MQ P t bl v|_,_,_=> .bad
 | .call {callee:= .builtin .max,args:=aas,argTypes:=ts}=>match aas.toList,vs with|[_,_],[p,v]=>wMax p v|_,_=> .bad
 | .call {callee:= .builtin .min,args:=aas,argTypes:=ts}=>match aas.toList,vs with|[_,_],[p,v]=>wMin p v|_,_=> .bad
 | .call {callee:= .builtin .append,args:=aas,argTypes:=ts}=>match aas.toList,vs,ts.toList,dst with|[_,_],[p,v],[t,u],some d=>JG P t u h.mh bl (h.dto d) p v|_,_,_,_=> .bad
 | .call {callee:= .value _,args:=aas,argTypes:=_}=>bif Nat.beq vs.length (aas.size+1)then(match q3G G h vs with
   | .c C=>PD C vs
   | .o C=>MO C (dOf dst) vs
   | .b C=>MN C bl vs
   | .s C=>MP C bl vs
   |_=> .bad)else .bad
 |_=> .bad
theorem OS{f:FuncId}:HOk P (.makeFunc (.func f) #[] #[]) ty [] [] bl (.ok [] (.c (.one (.vl (.func (.func f) #[] #[])))) [] []):=by
 intro _ _ _ kin hk _;rw[qn hk];refine⟨qP λa w H β hins _ _=>⟨.func (.func f) #[] #[],⟨rfl,rfl⟩,λ_ _ _ _=>?_⟩,⟨rfl,rfl⟩,qx⟩;simp[execOp,Instr.makeFunc]
theorem A2{α:Type}{a:Array α}{x y:α}(h:a.toList=[x,y]):a= #[x,y]:=by
 apply Array.ext';rw[h]
theorem Cn{α:Type}{a:Array α}{x:α}(h:a.toList=[x]):a= #[x]:=by
 apply Array.ext';rw[h]
theorem IP{G:List (Nat×Hint P)}{dst:Option Tmp}{op:Op}{h:Hint P}{vs:List WV}(hl:op.operands.toList.length=vs.length):HOk P op ty op.operands.toList vs bl (wop G bl dst op h vs):=by
 unfold wop;split
 .split
  .exact q1y
  .exact trivial
 .split
  .exact SW
  .exact trivial
 .split
  .exact q1z
  .exact trivial
 .split
  .exact WI
  .exact trivial
 .split
  .exact q3X
  .exact trivial
 .rename_i t parts
  have:=WL (P:=P) (bl:=bl) (ty:=ty) (t:=t) (parts:=parts) (vs:=vs);simpa[Op.operands]using this
 .rename_i t len parts
  split
  .rename_i d
   have:=LS (P:=P) (bl:=bl) (ty:=ty) (ts:=t) (len:=len) (parts:=parts) (h:=h.mh) (d:=d) (vs:=vs);simpa[Op.operands]using this
  .exact trivial
 .split
  .exact q1w
  .exact trivial
 .split
  .exact WW
  .exact trivial
 .split
  .exact q41
  .exact trivial
 .split
  .exact GB
  .exact trivial
 .split
  .exact WQ
  .exact trivial
 .split
  .exact Nd
  .exact trivial
 .split
  .exact WR
  .exact trivial
 .split
  .exact QK
  .exact trivial
 .split
  .exact q3W
  .exact trivial
 .split
  .exact h_un
  .exact trivial
 .split
  .exact q1v
  .exact trivial
 .exact WU
 .split
  .exact WT
  .exact trivial
 .rename_i fn a b
  cases hb:Nat.beq a.size 0&&Nat.beq b.size 0 with
  |false=>exact trivial
  |true=>
   simp only[q5m]at hb;have e1:=q5l (q68 hb.1);have e2:=q5l (q68 hb.2);subst e1 e2;simp only[cond_true];split
   .have:vs=[]:=by
     have:vs.length=0:=by rw[<-hl];rfl
     exact q5w this
    subst this;exact OS
   .exact trivial
 .rename_i aas ts
  split
  .rename_i x v t h1 h2
   have:=Cn h1;subst this
   have:=Cn h2;subst this
   exact q3Y
  .exact trivial
 .rename_i aas ts
  split
  .rename_i x v t h1 h2
   have:=Cn h1;subst this
   have:=Cn h2;subst this
   exact WP
  .exact trivial
 .rename_i aas ts
  split
  .rename_i x y p v h1
   have:=A2 h1;subst this
   exact q3Z
  .exact trivial
 .rename_i aas ts
  split
  .rename_i x y p v h1
   have:=A2 h1;subst this
   exact q40
  .exact trivial
 .rename_i aas ts
  split
  .rename_i x y p v t u d h1 h2
   have:=A2 h1;subst this
   have:=A2 h2;subst this
   exact SV
  .exact trivial
 .rename_i fx aas ts
  cases hb:Nat.beq vs.length (aas.size+1)with
  |false=>exact trivial
  |true=>
   have hb:=q68 hb;simp only[cond_true];rw[Cw];split
   .exact q1u hb
   .exact WN hb
   .exact WM hb
   .exact WO hb
   .exact trivial
 .exact trivial
def wopH(G:List (Nat×Hint P))(bl:Nat->Option WB)(dst:Option Tmp)(op:Op)(h:Hint P)(vs:List WV):HR:=
 match h with
 | .rat x b=>OB x b (wop G bl dst op .no vs)
 | .mag n b=>OA n b (wop G bl dst op .no vs)
 | .any vs0 R _ op0 _=> .ok [vs=vs0,op=op0] R [] []
 | .ext X=>X.g op dst bl vs
 |h=>wop G bl dst op h vs
theorem Oo{G:List (Nat×Hint P)}{dst:Option Tmp}{op:Op}{h:Hint P}{vs:List WV}(hl:op.operands.toList.length=vs.length):HOk P op ty op.operands.toList vs bl (wopH G bl dst op h vs):=by
 unfold wopH;split
 .exact WK (IP hl)
 .exact WJ (IP hl)
 .rename_i vs0 R hR op0 hop
  intro _ _ hvc kin hk _;rw[qn hk];have e1:vs=vs0:=hvc _ q5Q;have e2:op=op0:=hvc _ (q5P _ q5Q);subst e1 e2;exact⟨hop ty,hR,qx⟩
 .rename_i X;exact X.h hl
 .exact IP hl
end
end
section
structure WSt where
 rm:List (Nat×WV)
 m:List (Nat×WV)
 rL:List (Nat×WB)
 L:List (Nat×WB)
def qA(st:WSt)(t:Nat):Option WV:=
 match look st.m t with
 |some v=>some v
 |none=>look st.rm t
def qm(st:WSt)(k:Nat):Option WB:=
 match look st.L k with
 |some v=>some v
 |none=>look st.rL k
def WSt.toA(st:WSt):ASt:=⟨(st.m++st.rm).map λp=>(p.1,p.2.exp),(st.L++st.rL).map λp=>(p.1,p.2.exp)⟩
theorem AT{α β:Type}(f:α->β): ∀(l:List (Nat×α))(t:Nat),look (l.map λp=>(p.1,f p.2)) t=(look l t).map f
 |[],_=>rfl
 |(k,v)::r,t=>by
  simp only[q5M,look]
  cases Nat.beq k t with
  |true=>rfl
  |false=>exact AT f r t
theorem vd(st:WSt)(t:Nat):look st.toA.m t=(qA st t).map WV.exp:=by
 unfold WSt.toA qA;rw[AT,vM];cases look st.m t<;>rfl
theorem qJ(st:WSt)(k:Nat):look st.toA.L k=(qm st k).map WB.exp:=by
 unfold WSt.toA qm;rw[AT,vM];cases look st.L k<;>rfl
structure WSt.Ok (st:WSt):Prop where
 m: ∀t v,qA st t=some v->v.ok
 l: ∀k b,qm st k=some b->b.ok
 dm: ∀t,look st.rm t≠none->look st.m t=none
 dl: ∀k,look st.rL k≠none->look st.L k=none
def D3(st:WSt):Operand->Option WV
 | .tmp t=>qA st t
 | .const v=>LJ v
 | .func f=>some (.c (.one (.vl (.func (.func f) #[] #[]))))
 | .global _=>none
def B5(st:WSt):List Operand->Option (List WV)
 |[]=>some []
 |x::r=>match D3 st x with
  |some v=>match B5 st r with
   |some vs=>some (v::vs)
   |none=>none
  |none=>none
theorem HP{st:WSt}(hk:st.Ok){x:Operand}{v:WV}(h:D3 st x=some v):evOp st.toA x=some v.exp/\v.ok:=by
 cases x with
 |tmp t=>exact⟨by simp only[evOp,vd];simp only[D3]at h;rw[h];rfl,hk.m t v h⟩
 |const c=>obtain⟨h1,h2⟩:=N9 h;exact⟨h1,h2⟩
 |func f=>simp only[D3,q6E]at h;subst h;exact⟨rfl,rfl,rfl⟩
 |global g=>simp[D3]at h
theorem BC{st:WSt}(hk:st.Ok): ∀{xs:List Operand}{vs:List WV},B5 st xs=some vs->Ep st.toA xs=some (vs.map WV.exp)/\(∀v∈vs,v.ok)/\xs.length=vs.length
 |[],vs,h=>by simp[B5]at h;subst h;exact⟨rfl,λv hv=>by simp at hv,rfl⟩
 |x::r,vs,h=>by
  simp only[B5]at h
  cases hx:D3 st x with
  |none=>rw[hx]at h;cases h
  |some v=>
   rw[hx]at h;simp only at h
   cases hr:B5 st r with
   |none=>rw[hr]at h;cases h
   |some l=>
    rw[hr]at h;simp at h;subst h
    obtain⟨h1,h2⟩:=HP hk hx;obtain⟨h3,h4,h5⟩:=BC hk hr;refine⟨by simp only[Ep,h1,h3];rfl,λw hw=>?_,by simp[h5]⟩;rcases q5O.1 hw with rfl|hw
    .exact h2
    .exact h4 w hw
def kinW(st:WSt):List Nat->Option (List (Nat×WB))
 |[]=>some []
 |k::r=>match qm st k with
  |some b=>match kinW st r with
   |some l=>some ((k,b)::l)
   |none=>none
  |none=>none
theorem F9{st:WSt}: ∀{ks:List Nat}{kin:List (Nat×WB)},kinW st ks=some kin->kin.map (·.1)=ks/\(∀p∈kin,qm st p.1=some p.2)/\P6 st.toA ks=some (kinE kin)
 |[],kin,h=>by simp[kinW]at h;subst h;exact⟨rfl,λp hp=>by simp at hp,rfl⟩
 |k::r,kin,h=>by
  simp only[kinW]at h
  cases hl:qm st k with
  |none=>rw[hl]at h;cases h
  |some b=>
   rw[hl]at h;simp only at h
   cases hr:kinW st r with
   |none=>rw[hr]at h;cases h
   |some l=>
    rw[hr]at h;simp at h;subst h
    obtain⟨h1,h2,h3⟩:=F9 hr;refine⟨by simp[h1],λp hp=>?_,by simp only[P6,qJ,hl,h3,q6D];rfl⟩;rcases q5O.1 hp with rfl|hp
    .exact hl
    .exact h2 p hp
def putG:List (Nat×Option WB)->List (Nat×WB)->List (Nat×WB)
 |[],L=>L
 |(k,none)::r,L=>del (putG r L) k
 |(k,some b)::r,L=>(k,b)::del (putG r L) k
theorem Df(L:List (Nat×WB))(k:Nat): ∀Lw,look (putG Lw L) k=(match look Lw k with|some x=>x|none=>look L k)
 |[]=>rfl
 |(q,none)::r=>by
  simp only[putG,EB,look];by_cases e:q=k
  .subst e;simp
  .rw[if_neg (λh=>e h.symm),Df L k r];simp[jm e]
 |(q,some b)::r=>by
  simp only[putG,look,EB];by_cases e:q=k
  .subst e;simp
  .rw[if_neg (λh=>e h.symm),Df L k r];simp[jm e]
def WSt.put(st:WSt)(dst:Option Tmp)(R:WV)(Lw:List (Nat×Option WB)):WSt:=
 ⟨st.rm,match dst with|some d=>(d,R)::del st.m d|none=>st.m,st.rL,putG Lw st.L⟩
theorem GX(Lw:List (Nat×Option WB))(k:Nat):look (LwE Lw) k=(look Lw k).map λx=>x.map WB.exp:=AT _ _ _
theorem K5(st:WSt)(dst:Option Tmp)(R:WV)(Lw:List (Nat×Option WB))(t:Nat):qA (st.put dst R Lw) t=if dst=some t then some R else qA st t:=by
 unfold qA WSt.put
 cases dst with
 |none=>simp
 |some d=>
  by_cases e:d=t
  .subst e;simp[look]
  .have e2: ¬(some d:Option Tmp)=some t:=λh=>e (Option.some.inj h)
   rw[if_neg e2];simp only[look,jm e,cond_false,EB];rw[if_neg (λh=>e h.symm)]
theorem K4(st:WSt)(dst:Option Tmp)(R:WV)(Lw:List (Nat×Option WB))(hL: ∀k,look Lw k≠none->look st.rL k=none)(k:Nat):
  qm (st.put dst R Lw) k=(match look Lw k with|some x=>x|none=>qm st k):=by
 unfold qm WSt.put;simp only[Df]
 cases hl:look Lw k with
 |none=>rfl
 |some x=>
  cases x with
  |none=>simp only;exact hL k (by rw[hl];simp)
  |some b=>rfl
theorem Kf(st:WSt)(dst:Option Tmp)(R:WV)(Lw:List (Nat×Option WB))(hL: ∀k,look Lw k≠none->look st.rL k=none):
  j9 (st.put dst R Lw).toA=(j9 st.toA).upd (Wof dst R.exp (LwE Lw)):=by
 funext ℓ;rcases q6l ℓ with h|h
 .obtain⟨t,rfl⟩: ∃t,ℓ=2*t:=⟨ℓ/2,by omega⟩
  rw[jy,vd,K5];simp only[FS.upd,wT];by_cases e:dst=some t
  .rw[if_pos e,if_pos e];rfl
  .rw[if_neg e,if_neg e,jy,vd]
 .obtain⟨k,rfl⟩: ∃k,ℓ=2*k+1:=⟨ℓ/2,by omega⟩
  rw[qz,qJ,K4 st dst R Lw hL];simp only[FS.upd,Ad,GX]
  cases hl:look Lw k with
  |none=>simp only[q6C];rw[qz,qJ]
  |some x=>cases x<;>rfl
def F6(st:WSt)(W:Wr)(k:Nat):Bool:=
 Nat.blt k 100000&&(st.m++st.rm).all (λp=>(look W (2*p.1)).isSome||!(p.2.ids.any (Nat.beq k)))&&(st.L++st.rL).all (λp=>(look W (2*p.1+1)).isSome||!(p.2.ids.any (Nat.beq k)))
theorem Nl{k:Nat}{l:List Nat}(h:k∈l):l.any (Nat.beq k)=true:=List.any_eq_true.2 ⟨k,h,Nat.beq_refl k⟩
theorem Gz{st:WSt}{W:Wr}{k:Nat}(h:F6 st W k=true):k<100000/\ ∀ℓ x,j9 st.toA ℓ=some x->look W ℓ=none->x.men k=false:=by
 unfold F6 at h;simp only[q5m,q6N]at h;obtain⟨⟨h0,h1⟩,h2⟩:=h;refine⟨by simpa using h0,λℓ x hx hl=>?_⟩;rcases q6l ℓ with e|e
 .obtain⟨t,rfl⟩: ∃t,ℓ=2*t:=⟨ℓ/2,by omega⟩
  rw[jy]at hx;have hx2:look ((st.m++st.rm).map λp=>(p.1,p.2.exp)) t=look st.toA.m t:=rfl;rw[<-hx2,AT]at hx
  cases hv:look (st.m++st.rm) t with
  |none=>rw[hv]at hx;cases hx
  |some v=>
   rw[hv]at hx;simp at hx;subst hx
   have:=h1 _ (qR hv);simp only[hl,Option.isSome_none,Bool.false_or,q5o]at this
   cases hm:(XV.av v.exp).men k with
   |false=>rfl
   |true=>rw[Nl (WV.men_ids hm)]at this;cases this
 .obtain⟨t,rfl⟩: ∃t,ℓ=2*t+1:=⟨ℓ/2,by omega⟩
  rw[qz]at hx;have hx2:look ((st.L++st.rL).map λp=>(p.1,p.2.exp)) t=look st.toA.L t:=rfl;rw[<-hx2,AT]at hx
  cases hv:look (st.L++st.rL) t with
  |none=>rw[hv]at hx;cases hx
  |some v=>
   rw[hv]at hx;simp at hx;subst hx
   have:=h2 _ (qR hv);simp only[hl,Option.isSome_none,Bool.false_or,q5o]at this
   cases hm:(XV.bl v.exp).men k with
   |false=>rfl
   |true=>rw[Nl (WB.men_ids hm)]at this;cases this
def v8(k:Nat)(l:List Nat):Bool:=l.any (Nat.beq k)
theorem z9{k:Nat}{l:List Nat}:v8 k l=true↔k∈l:=by
 unfold v8;rw[List.any_eq_true];exact⟨λ⟨x,hx,h⟩=>by rw[q68 h];exact hx,λh=>⟨k,h,Nat.beq_refl k⟩⟩
def nwOf(ks:List Nat)(Lw:List (Nat×Option WB)):List Nat:=((Lw.filter (·.2.isSome)).map (·.1)).filter λk=>!v8 k ks
theorem De{α:Type}{l:List (Nat×α)}{k:Nat}:(look l k).isNone=!v8 k (l.map (·.1)):=by
 cases hm:v8 k (l.map (·.1))with
 |true=>
  have:=z9.1 hm;obtain⟨p,hp,e⟩:=q6T.1 this
  cases hl:look l k with
  |none=>exact absurd e ((jX.1 hl) p hp)
  |some v=>rfl
 |false=>
  have:look l k=none:=jX.2 λp hp e=>by
   have:v8 k (l.map (·.1))=true:=z9.2 (q6T.2 ⟨p,hp,e⟩);rw[hm]at this;cases this
  rw[this];rfl
theorem q4H{ks:List Nat}{kin:List (Nat×WB)}{Lw:List (Nat×Option WB)}(h:kin.map (·.1)=ks):qX (kinE kin) (LwE Lw)=nwOf ks Lw:=by
 unfold qX nwOf LwE kinE
 have e1: ∀l:List (Nat×Option WB),((l.map λp=>(p.1,p.2.map WB.exp)).filter (·.2.isSome)).map (·.1)=(l.filter (·.2.isSome)).map (·.1):=by
  intro l
  induction l with
  |nil=>rfl
  |cons a l ih=>
   obtain⟨k,x⟩:=a
   cases x with
   |none=>simpa using ih
   |some b=>simpa using ih
 rw[e1]
 congr 1
 funext k;rw[De,List.map_map];rw[show((λx:Nat×Blk=>x.1)∘λp:Nat×WB=>(p.1,p.2.exp))=(·.1)from rfl,h]
def q4C(Lw:List (Nat×Option WB)):List Nat:=Lw.flatMap λp=>match p.2 with|some b=>b.ids|none=>[]
def Ft(n:Nat)(st:WSt)(dst:Option Tmp)(R:WV)(ks:List Nat)(Lw:List (Nat×Option WB))(W:Wr):Bool:=
 FT n dst&&(match dst with|some d=>(look st.rm d).isNone|none=>true)&&Lw.all (λp=>(look st.rL p.1).isNone)&&
  Lw.all (λp=>match p.2 with|none=>v8 p.1 ks&&(match look Lw p.1 with|some none=>true|_=>false)|some _=>true)&&(nwOf ks Lw).all (F6 st W)
inductive SR where
 |bad
 |one (vc:List Prop) (p:PI) (st:WSt)
 |two (q:Prop) (p1:PI) (s1:WSt) (p2:PI) (s2:WSt)
def HV(all:List Oper)(st:WSt)(o:Oper):Option Bool:=
 match o.guard with
 |none=>some true
 |some (j,want)=>match(all[j]?).bind (·.dst)with
  |none=>none
  |some d=>match qA st d with
   |some (.c (.one (.vl (.bool b))))=>some (beqB b want)
   |some (.tup [])=>some false
   |_=>none
def Hl(all:List Oper)(i:Nat):Bool:=all.any λo=>match o.guard with|some (j,_)=>Nat.beq j i|none=>false
def Hu:WV->Option Prop
 | .c (.one (.pp q _))=>some q
 | .c (.one (.dt .bool _ b))=>some (b=true)
 |_=>none
def vB(b:Bool):WV:= .c (.one (.vl (.bool b)))
def piOf(all:List Oper)(o:Oper)(R:WV)(ks:List Nat)(Lw:List (Nat×Option WB)):PI:=
 ⟨gslots all o++B0 o.op.operands.toList++ks.map (2* · +1),Wof o.dst R.exp (LwE Lw),nwOf ks Lw,R.ids++q4C Lw,none⟩
section
variable {P:Program}
def fin1(n:Nat)(all:List Oper)(st:WSt)(o:Oper)(R:WV)(ks:List Nat)(Lw:List (Nat×Option WB)):Option (PI×WSt):=
 let p:=piOf all o R ks Lw
 bif Ft n st o.dst R ks Lw p.W then some (p,st.put o.dst R Lw)else none
def wstep(G:List (Nat×Hint P))(n:Nat)(all:List Oper)(i:Nat)(o:Oper)(h:Hint P)(st:WSt):SR:=
 match HV all st o with
 |none=> .bad
 |some false=>bif FT n o.dst&&(match o.dst with|some d=>(look st.rm d).isNone|none=>true)then .one [] ⟨gslots all o,Wof o.dst wX.exp [],[],[],none⟩ (st.put o.dst wX [])else .bad
 |some true=>match B5 st o.op.operands.toList with
  |none=> .bad
  |some vs=>match wopH G (qm st) o.dst o.op h vs with
   | .bad=> .bad
   | .ok vc R ks Lw=>match kinW st ks with
    |none=> .bad
    |some _=>match(bif Hl all i&&Nat.beq ks.length 0&&Nat.beq Lw.length 0&&Nat.beq vc.length 0 then Hu R else none)with
     |some q=>match fin1 n all st o (vB true) [] [],fin1 n all st o (vB false) [] []with
      |some (p1,s1),some (p2,s2)=> .two q p1 s1 p2 s2
      |_,_=> .bad
     |none=>match fin1 n all st o R ks Lw with
      |some (p,s)=> .one vc p s
      |none=> .bad
   | .spl q R1 R2=>match fin1 n all st o R1 [] [],fin1 n all st o R2 [] []with
    |some (p1,s1),some (p2,s2)=> .two q p1 s1 p2 s2
    |_,_=> .bad
   | .okA vc R q b'=>match qm st q with
    |none=> .bad
    |some _=>match fin1 n all st o R [q] []with
     |some (p,s)=> .one vc ⟨p.rd,p.W,p.nw,p.tch,some (2*q+1,.bl b'.exp)⟩ s
     |none=> .bad
structure StepOk (P:Program) (E:Env) (ops:Array Oper) (i:Nat) (st:WSt) (p:PI) (st':WSt):Prop where
 good:Good P E ops i p (j9 st.toA)
 goodA: ∀ℓ x,p.alt=some (ℓ,x)->Good P E ops i p (setA (j9 st.toA) ℓ x)
 fs:j9 st'.toA=(j9 st.toA).upd p.W
 tch: ∀ℓ x,look p.W ℓ=some (some x)-> ∀k,x.men k=true->k∈p.tch
 nw: ∀k∈p.nw,∀ℓ x,j9 st.toA ℓ=some x->look p.W ℓ=none->x.men k=false
 ok:st'.Ok
 rm:st'.rm=st.rm
 rL:st'.rL=st.rL
theorem RE{st:WSt}(hk:st.Ok){dst:Option Tmp}{R:WV}{Lw:List (Nat×Option WB)}(hR:R.ok)(hLw:LwOk Lw)(hd: ∀d,dst=some d->look st.rm d=none)(hL: ∀k,look Lw k≠none->look st.rL k=none):(st.put dst R Lw).Ok:=by
 refine⟨λt v h=>?_,λk b h=>?_,λt ht=>?_,λk hk'=>?_⟩
 .rw[K5]at h
  by_cases e:dst=some t
  .rw[if_pos e]at h;cases h;exact hR
  .rw[if_neg e]at h;exact hk.m t v h
 .rw[K4 st dst R Lw hL]at h
  cases hl:look Lw k with
  |none=>rw[hl]at h;exact hk.l k b h
  |some x=>
   rw[hl]at h;simp only at h;subst h
   exact hLw k b (qR hl)
 .have h1:=hk.dm t ht
  unfold WSt.put
  cases dst with
  |none=>exact h1
  |some d=>
   have hne:d≠t:=λe=>ht (e▸hd d rfl)
   simp only[look,jm hne,cond_false,EB];rw[if_neg (λh=>hne h.symm)];exact h1
 .have h1:=hk.dl k hk'
  show look (putG Lw st.L) k=none;rw[Df]
  cases hl:look Lw k with
  |none=>exact h1
  |some x=>exact absurd (hL k (by rw[hl];simp)) hk'
theorem Ch{E:Env}{n:Nat}(hn:E.n=n){all:List Oper}{ops:Array Oper}(hall:ops.toList=all){i:Nat}{o:Oper}(ho:ops[i]?=some o){st:WSt}(hk:st.Ok)(hg:Ci all st.toA o=some true)
  {vs:List WV}(hv:B5 st o.op.operands.toList=some vs){R:WV}{ks:List Nat}{Lw:List (Nat×Option WB)}{kin:List (Nat×WB)}(hkin:kinW st ks=some kin){p:PI}{st':WSt}(h:fin1 n all st o R ks Lw=some (p,st'))
  (hop:OpOk P o.op o.type (List.zip o.op.operands.toList (vs.map WV.exp)) (kinE kin) R.exp (LwE Lw))(hR:R.ok)(hLw:LwOk Lw):StepOk P E ops i st p st':=by
 unfold fin1 at h;simp only at h
 cases hc:Ft n st o.dst R ks Lw (piOf all o R ks Lw).W with
 |false=>rw[hc]at h;cases h
 |true=>
  rw[hc]at h;simp only[cond_true,q6E,q6F]at h;obtain⟨rfl,rfl⟩:=h
  unfold Ft at hc;simp only[q5m,q6N]at hc;obtain⟨⟨⟨⟨c1,c2⟩,c3⟩,c4⟩,c5⟩:=hc;obtain⟨k1,k2,k3⟩:=F9 hkin;obtain⟨e1,e2,e3⟩:=BC hk hv;have hkn:=q4H (Lw:=Lw) k1
  have hLr: ∀k,look Lw k≠none->look st.rL k=none:=by
   intro k hkk;obtain⟨x,hx⟩:=Option.ne_none_iff_exists'.1 hkk;exact Option.isNone_iff_eq_none.1 (c3 _ (qR hx))
  have hd: ∀d,o.dst=some d->look st.rm d=none:=by
   intro d hd;rw[hd]at c2;exact Option.isNone_iff_eq_none.1 c2
  have hfr: ∀k∈nwOf ks Lw,k<100000/\ ∀ℓ x,j9 st.toA ℓ=some x->look (Wof o.dst R.exp (LwE Lw)) ℓ=none->x.men k=false:=λk hkk=>Gz (c5 k hkk)
  refine⟨?_,λℓ x h=>(by cases h),Kf st o.dst R Lw hLr,?_,λk hkk=>(hfr k hkk).2,RE hk hR hLw hd hLr,rfl,rfl⟩
  .intro σ hσ hmσ a w H β K Q hrep hK
   have hw:=Ex hall hrep hg (λℓ hℓ=>hσ ℓ (by simp[piOf,hℓ]));unfold Gv;simp only[ho,hw,if_true]
   have hkinσ: ∀p∈kinE kin,σ (2*p.1+1)=some (.bl p.2):=by
    intro p hp;obtain⟨q,hq,rfl⟩:=q6T.1 hp
    rw[hσ (2*q.1+1) (by
     simp only[piOf,q5N,q6T];refine .inr ⟨q.1,?_,rfl⟩
     rw[<-k1];exact q6T.2 ⟨q,hq,rfl⟩),qz,qJ,k2 q hq]
    rfl
   refine hop o.dst o.pos o.after o.guard a w H β K Q (D1 hrep e1 λℓ hℓ=>hσ ℓ (by simp[piOf,hℓ])) (λp hp=>⟨hrep.blk _ _ (hkinσ p hp),λb c hb=>⟨(hrep.own _ _ b c (hkinσ p hp) hb).1,(hrep.own _ _ b c (hkinσ p hp) hb).2.1⟩⟩)
    (λp hp p' hp' hne b c c' hb=>hrep.inj _ _ _ _ b c c' (hkinσ p hp) (hkinσ p' hp') hne hb) hrep.hon ?_
   intro v w' H' β' hs hr hL;refine hK _ _ H' β' ?_;refine RepF.step hrep hs hr hL hkinσ ?_ (λk hkk=>?_) ?_
   .intro k hkk
    simp only[vg,LwE,q6T,q5R]at hkk;obtain⟨q,⟨⟨r,hr',rfl⟩,hq⟩,rfl⟩:=hkk;have h4:=c4 r hr'
    cases hr2:r.2 with
    |some b=>rw[hr2]at hq;simp at hq
    |none=>
     rw[hr2]at h4;simp only[q5m]at h4;obtain⟨h4,h5⟩:=h4;refine⟨?_,?_⟩
     .cases hl:look (kinE kin) r.1 with
      |some x=>rfl
      |none=>
       have:=De (l:=kinE kin) (k:=r.1);rw[hl,kinE,List.map_map,show((λx:Nat×Blk=>x.1)∘λp:Nat×WB=>(p.1,p.2.exp))=(·.1)from rfl,k1,h4]at this;simp at this
     .have hLe:look (LwE Lw) r.1=(look Lw r.1).map λx=>x.map WB.exp:=GX _ _
      show look (LwE Lw) r.1=some none;rw[hLe];split at h5
      .rename_i h6;rw[h6];rfl
      .cases h5
   .rw[hkn]at hkk
    exact⟨E.notKs (hfr k hkk).1,λℓ x hx hl=>hmσ k hkk ℓ x hx hl⟩
   .intro d hd'
    rw[hd']at c1;rw[hn];simpa[FT]using c1
  .intro ℓ x hx k hkk
   simp only[piOf]at hx⊢;rw[q5N];rcases q6l ℓ with e|e
   .obtain⟨t,rfl⟩: ∃t,ℓ=2*t:=⟨ℓ/2,by omega⟩
    rw[wT]at hx;by_cases e:o.dst=some t
    .rw[if_pos e]at hx;simp at hx;subst hx;exact .inl (WV.men_ids hkk)
    .rw[if_neg e]at hx;cases hx
   .obtain⟨t,rfl⟩: ∃t,ℓ=2*t+1:=⟨ℓ/2,by omega⟩
    rw[Ad,GX]at hx
    cases hl:look Lw t with
    |none=>rw[hl]at hx;cases hx
    |some y=>
     rw[hl]at hx
     cases y with
     |none=>simp at hx
     |some b=>
      simp at hx;subst hx
      exact .inr (q6O.2 ⟨_,qR hl,WB.men_ids hkk⟩)
theorem Ah: ∀{l:List Operand}{ℓ:Nat},ℓ∈B0 l->ℓ%2=0
 | .tmp t::r,ℓ,h=>by
  rcases q5O.1 (show ℓ∈2*t::B0 r from h)with e|e
  .omega
  .exact Ah e
 | .const _::r,ℓ,h=>Ah (l:=r) h
 | .func _::r,ℓ,h=>Ah (l:=r) h
 | .global _::r,ℓ,h=>Ah (l:=r) h
theorem Nb{all:List Oper}{o:Oper}{ℓ:Nat}(h:ℓ∈gslots all o):ℓ%2=0:=by
 unfold gslots at h;split at h
 .cases h
 .split at h
  .rw[q5U.1 h];omega
  .cases h
theorem SL{E:Env}{n:Nat}(hn:E.n=n){all:List Oper}{ops:Array Oper}(hall:ops.toList=all){i:Nat}{o:Oper}(ho:ops[i]?=some o){st:WSt}(hk:st.Ok)(hg:Ci all st.toA o=some true)
  {vs:List WV}(hv:B5 st o.op.operands.toList=some vs){R:WV}{q:Nat}{b b':WB}(hb:qm st q=some b){p:PI}{st':WSt}(h:fin1 n all st o R [q] []=some (p,st'))
  (hop:OpOk P o.op o.type (List.zip o.op.operands.toList (vs.map WV.exp)) [(q,b.exp)] R.exp [])(hop':OpOk P o.op o.type (List.zip o.op.operands.toList (vs.map WV.exp)) [(q,b'.exp)] R.exp [])(hR:R.ok):
  StepOk P E ops i st ⟨p.rd,p.W,p.nw,p.tch,some (2*q+1,.bl b'.exp)⟩ st':=by
 have hkin:kinW st [q]=some [(q,b)]:=by simp[kinW,hb]
 have hs:=Ch (P:=P) hn hall ho hk hg hv hkin h (show OpOk P o.op o.type _ (kinE [(q,b)]) R.exp (LwE [])from hop) hR qx;refine⟨hs.good,?_,hs.fs,hs.tch,hs.nw,hs.ok,hs.rm,hs.rL⟩;intro ℓ x hx;simp only[q6E,q6F]at hx;obtain⟨rfl,rfl⟩:=hx;unfold fin1 at h;simp only at h
 cases hc:Ft n st o.dst R [q] [] (piOf all o R [q] []).W with
 |false=>rw[hc]at h;cases h
 |true=>
  rw[hc]at h;simp only[cond_true,q6E,q6F]at h;obtain⟨rfl,rfl⟩:=h
  unfold Ft at hc;simp only[q5m,q6N]at hc;obtain⟨⟨⟨⟨c1,c2⟩,c3⟩,c4⟩,c5⟩:=hc;obtain⟨e1,e2,e3⟩:=BC hk hv;intro σ hσ hmσ a w H β K Q hrep hK
  have hev: ∀ℓ:Nat,ℓ%2=0->ℓ∈(piOf all o R [q] []).rd->σ ℓ=j9 st.toA ℓ:=by
   intro ℓ h0 hℓ;rw[hσ ℓ hℓ];have: ¬ℓ=2*q+1:=by omega
   simp[setA,this]
  have hw:=Ex hall hrep hg (λℓ hℓ=>hev ℓ (Nb hℓ) (by simp[piOf,hℓ]));unfold Gv;simp only[ho,hw,if_true]
  have hkinσ: ∀p∈[(q,b'.exp)],σ (2*p.1+1)=some (.bl p.2):=by
   intro p hp;rw[q5U.1 hp];rw[hσ (2*q+1) (by simp[piOf])];simp[setA]
  refine hop' o.dst o.pos o.after o.guard a w H β K Q (D1 hrep e1 λℓ hℓ=>hev ℓ (Ah hℓ) (by simp[piOf,hℓ])) (λp hp=>⟨hrep.blk _ _ (hkinσ p hp),λb c hb=>⟨(hrep.own _ _ b c (hkinσ p hp) hb).1,(hrep.own _ _ b c (hkinσ p hp) hb).2.1⟩⟩)
   (λp hp p' hp' hne b c c' hb=>hrep.inj _ _ _ _ b c c' (hkinσ p hp) (hkinσ p' hp') hne hb) hrep.hon ?_
  intro v w' H' β' hs hr hL;refine hK _ _ H' β' ?_;refine RepF.step hrep hs hr hL hkinσ (λk hkk=>(by simp[vg,LwE]at hkk)) (λk hkk=>(by simp[qX,LwE]at hkk)) ?_;intro d hd';rw[hd']at c1;rw[hn];simpa[FT]using c1
theorem Nc{all:List Oper}{st:WSt}{o:Oper}{b:Bool}(h:HV all st o=some b):Ci all st.toA o=some b:=by
 unfold HV at h;unfold Ci;split at h
 .rename_i hg;rw[hg];exact h
 .rename_i j want hg
  rw[hg];simp only
  split at h
  .cases h
  .rename_i d hd
   rw[hd];simp only[vd]
   split at h
   .rename_i c hc
    rw[hc];simp only[q6E]at h;subst h
    simp only[q6D,WV.exp,WC.exp,WA.exp,List.headD_cons,q6E];cases c<;>cases want<;>rfl
   .rename_i hc
    rw[hc];simp only[q6E]at h;subst h
    rfl
   .cases h
theorem N7{R:WV}{q:Prop}(h:Hu R=some q):(q->R.exp=(vB true).exp)/\(¬q->R.exp=(vB false).exp):=by
 unfold Hu at h;split at h
 .rename_i q' i
  simp only[q6E]at h;subst h
  refine⟨λhq=>?_,λhq=>?_⟩
  .show AV.c (.one (.val (.bool (@decide q' i))))=_
   rw[show @decide q' i=true from decide_eq_true hq];rfl
  .show AV.c (.one (.val (.bool (@decide q' i))))=_
   rw[show @decide q' i=false from decide_eq_false hq];rfl
 .rename_i b' b
  simp only[q6E]at h;subst h
  refine⟨λhq=>by subst hq;rfl,λhq=>?_⟩;have:b=false:=by simpa using hq
  subst this;rfl
 .cases h
theorem MZ{G:List (Nat×Hint P)}{n:Nat}{all:List Oper}{ops:Array Oper}(hall:ops.toList=all){i:Nat}{o:Oper}(ho:ops[i]?=some o){h:Hint P}{st:WSt}(hk:st.Ok){E:Env}(hn:E.n=n):
  match wstep G n all i o h st with
  | .bad=>True
  | .one vc p st'=>(∀q∈vc,q)->StepOk P E ops i st p st'
  | .two q p1 s1 p2 s2=>(q->StepOk P E ops i st p1 s1)/\(¬q->StepOk P E ops i st p2 s2):=by
 unfold wstep
 cases hg:HV all st o with
 |none=>exact trivial
 |some g=>
  have hg':=Nc hg
  cases g with
  |false=>
   simp only
   cases hd:FT n o.dst&&(match o.dst with|some d=>(look st.rm d).isNone|none=>true)with
   |false=>exact trivial
   |true=>
    simp only[cond_true];intro _;simp only[q5m]at hd
    have hd2: ∀d,o.dst=some d->look st.rm d=none:=by
     intro d he;have:=hd.2;rw[he]at this;exact Option.isNone_iff_eq_none.1 this
    refine⟨?_,λℓ x h=>(by cases h),Kf st o.dst wX [] (λk hkk=>absurd rfl hkk),?_,λk hkk=>by simp at hkk,RE hk Ds qx hd2 (λk hkk=>absurd rfl hkk),rfl,rfl⟩
    .intro σ hσ _ a w H β K Q hrep hK
     have hw:=Ex hall hrep hg' hσ;unfold Gv;simp only[ho,hw,q5n,if_false];refine hK _ _ H β ?_
     refine RepF.step (kin:=[]) (Lw:=[]) hrep (v:=undef) (by simpa[kwOf,qX,vg]using Step.refl hrep.hon) (Dq _ _) (λk b hb=>by simp at hb) (λp hp=>by simp at hp)
      (λk hk=>by simp[vg]at hk) (λk hk=>by simp[qX]at hk) ?_
     intro d hd';have:=hd.1;rw[hd']at this;rw[hn];simpa[FT]using this
    .intro ℓ x hx k hkk
     have:=Px (P:=P) (dat:=[]) (by trivial) ℓ x hx k hkk;simp[Pw,wX,WV.exp,AV.ids]at this
  |true=>
   simp only
   cases hv:B5 st o.op.operands.toList with
   |none=>exact trivial
   |some vs=>
    simp only;obtain⟨e1,e2,e3⟩:=BC hk hv;have hH:=Oo (P:=P) (bl:=qm st) (ty:=o.type) (G:=G) (dst:=o.dst) (op:=o.op) (h:=h) (vs:=vs) e3
    cases hr:wopH G (qm st) o.dst o.op h vs with
    |bad=>exact trivial
    |ok vc R ks Lw=>
     rw[hr]at hH;simp only
     cases hkin:kinW st ks with
     |none=>exact trivial
     |some kin=>
      simp only;obtain⟨k1,k2,k3⟩:=F9 hkin
      cases ht:(bif Hl all i&&Nat.beq ks.length 0&&Nat.beq Lw.length 0&&Nat.beq vc.length 0 then Hu R else none)with
      |none=>
       simp only
       cases hf:fin1 n all st o R ks Lw with
       |none=>exact trivial
       |some ps=>
        obtain⟨p,s⟩:=ps;simp only;intro hvc;obtain⟨g1,g2,g3⟩:=hH e2 hk.l hvc kin k1 k2;exact Ch hn hall ho hk hg' hv hkin hf g1 g2 g3
      |some q=>
       simp only
       cases hu:Hl all i&&Nat.beq ks.length 0&&Nat.beq Lw.length 0&&Nat.beq vc.length 0 with
       |false=>rw[hu]at ht;cases ht
       |true=>
        rw[hu]at ht;simp only[cond_true]at ht
        simp only[q5m]at hu;have h1:=q5w (q68 hu.1.1.2);have h2:=q5w (q68 hu.1.2);have h3:=q5w (q68 hu.2);subst h1 h2 h3;obtain⟨g1,g2,g3⟩:=hH e2 hk.l (λp hp=>by simp at hp) kin k1 k2;obtain⟨t1,t2⟩:=N7 ht
        cases hf1:fin1 n all st o (vB true) [] []with
        |none=>exact trivial
        |some ps1=>
         cases hf2:fin1 n all st o (vB false) [] []with
         |none=>exact trivial
         |some ps2=>
          obtain⟨p1,s1⟩:=ps1;obtain⟨p2,s2⟩:=ps2;simp only;exact⟨λhq=>Ch hn hall ho hk hg' hv hkin hf1 (by rw[<-t1 hq];exact g1) ⟨rfl,rfl⟩ qx,λhq=>Ch hn hall ho hk hg' hv hkin hf2 (by rw[<-t2 hq];exact g1) ⟨rfl,rfl⟩ qx⟩
    |okA vc R q b'=>
     rw[hr]at hH;simp only
     cases hb:qm st q with
     |none=>exact trivial
     |some b=>
      simp only
      cases hf:fin1 n all st o R [q] []with
      |none=>exact trivial
      |some ps=>
       obtain⟨p,s⟩:=ps;simp only;intro hvc;obtain⟨g1,g2,g3⟩:=hH e2 hk.l hvc b hb;exact SL hn hall ho hk hg' hv hb hf g1 g2 g3
    |spl q R1 R2=>
     rw[hr]at hH;simp only;obtain⟨g1,g2⟩:=hH e2
     cases hf1:fin1 n all st o R1 [] []with
     |none=>exact trivial
     |some ps1=>
      cases hf2:fin1 n all st o R2 [] []with
      |none=>exact trivial
      |some ps2=>
       obtain⟨p1,s1⟩:=ps1;obtain⟨p2,s2⟩:=ps2;simp only;exact⟨λhq=>Ch hn hall ho hk hg' hv (kin:=[]) rfl hf1 (g1 hq).1 (g1 hq).2 qx,λhq=>Ch hn hall ho hk hg' hv (kin:=[]) rfl hf2 (g2 hq).1 (g2 hq).2 qx⟩
def altP:XV->Option XV->Prop
 | .bl (.mp l),some (.bl (.mp l'))=>l'=l
 |_,_=>False
theorem Vm{x:XV}{y:Option XV}(h:altP x y):y=some x:=by
 unfold altP at h;split at h
 .rw[h]
 .exact h.elim
def altT(M:List Nat)(i ℓ:Nat)(x:XV):Nat->List PI->List Prop
 |_,[]=>[]
 |j,q::r=>match look q.W ℓ with
  |none=>altT M i ℓ x (j+1) r
  |some y=>bif Nat.testBit (M.getD j 0) i then altT M i ℓ x (j+1) r else altP x y::altT M i ℓ x (j+1) r
def altV(M:List Nat):Nat->List PI->List Prop
 |_,[]=>[]
 |i,p::r=>match p.alt with
  |none=>altV M (i+1) r
  |some (ℓ,x)=>altT M i ℓ x (i+1) r++altV M (i+1) r
theorem CV{M:List Nat}{i ℓ:Nat}{x:XV}: ∀{l:List PI}{j:Nat},(∀v∈altT M i ℓ x j l,v)-> ∀d q,l[d]?=some q->look q.W ℓ≠none->Nat.testBit (M.getD (j+d) 0) i=true\/look q.W ℓ=some (some x)
 |[],_,_,d,q,h,_=>by simp at h
 |q0::r,j,hv,d,q,h,hne=>by
  rw[altT]at hv
  cases hl:look q0.W ℓ with
  |none=>
   rw[hl]at hv
   cases d with
   |zero=>simp at h;subst h;exact absurd hl hne
   |succ d=>rw[show j+(d+1)=j+1+d by omega];exact CV hv d q (by simpa using h) hne
  |some y=>
   rw[hl]at hv;simp only at hv
   cases hb:Nat.testBit (M.getD j 0) i with
   |true=>
    rw[hb]at hv;simp only[cond_true]at hv
    cases d with
    |zero=>exact .inl hb
    |succ d=>rw[show j+(d+1)=j+1+d by omega];exact CV hv d q (by simpa using h) hne
   |false=>
    rw[hb]at hv;simp only[cond_false]at hv
    cases d with
    |zero=>simp at h;subst h;rw[hl];exact .inr (congrArg some (Vm (hv _ q5Q)))
    |succ d=>rw[show j+(d+1)=j+1+d by omega];exact CV (λv h=>hv v (q5P _ h)) d q (by simpa using h) hne
theorem JM{M:List Nat}: ∀{l:List PI}{i:Nat},(∀v∈altV M i l,v)-> ∀d e p q ℓ x,l[d]?=some p->l[e]?=some q->d<e->p.alt=some (ℓ,x)->look q.W ℓ≠none->Nat.testBit (M.getD (i+e) 0) (i+d)=true\/look q.W ℓ=some (some x)
 |[],_,_,d,e,p,q,ℓ,x,h,_,_,_,_=>by simp at h
 |p0::r,i,hv,d,e,p,q,ℓ,x,hp,hq,hde,ha,hne=>by
  rw[altV]at hv;obtain⟨e,rfl⟩: ∃e',e=e'+1:=⟨e-1,by omega⟩;have hq':r[e]?=some q:=by simpa using hq
  cases d with
  |zero=>
   simp at hp;subst hp
   rw[ha]at hv;simp only at hv
   have:=CV (λv h=>hv v (List.mem_append_left _ h)) e q hq' hne
   rwa [show i+1+e=i+(e+1) by omega]at this
  |succ d=>
   have hv2: ∀v∈altV M (i+1) r,v:=by
    split at hv
    .exact hv
    .exact λv h=>hv v (List.mem_append_right _ h)
   have:=JM hv2 d e p q ℓ x (by simpa using hp) hq' (by omega) ha hne
   rwa [show i+1+e=i+(e+1) by omega,show i+1+d=i+(d+1) by omega]at this
theorem Vn{M:List Nat}{ps:List PI}(h: ∀v∈altV M 0 ps,v):Kr ps.length (λi=>ps.getD i default) M:=by
 intro i j ℓ x hij hj ha hne
 have hg: ∀k,k<ps.length->ps[k]?=some (ps.getD k default):=λk hk=>by
  rw[q5y,q5C hk];rfl
 have:=JM h i j _ _ ℓ x (hg i (by omega)) (hg j hj) hij ha hne;simpa using this
structure Chain (P:Program) (E:Env) (ops:Array Oper) (st0:WSt) (ps:List PI) (st:WSt):Prop where
 fs:j9 st.toA=evL ps (j9 st0.toA)
 all: ∀j p,ps[j]?=some p->(Good P E ops j p (evL (ps.take j) (j9 st0.toA))/\ ∀ℓ x,p.alt=some (ℓ,x)->Good P E ops j p (setA (evL (ps.take j) (j9 st0.toA)) ℓ x))/\(∀ℓ x,look p.W ℓ=some (some x)-> ∀k,x.men k=true->k∈p.tch)/\
   (∀k∈p.nw,∀ℓ x,evL (ps.take j) (j9 st0.toA) ℓ=some x->look p.W ℓ=none->x.men k=false)
theorem Chain.nil{E:Env}{ops:Array Oper}{st:WSt}:Chain P E ops st [] st:=⟨rfl,λj p h=>by simp at h⟩
theorem Chain.snoc{E:Env}{ops:Array Oper}{st0 st st':WSt}{ps:List PI}{p:PI}(h:Chain P E ops st0 ps st)(hs:StepOk P E ops ps.length st p st'):Chain P E ops st0 (ps++[p]) st':=by
 refine⟨by rw[hs.fs,h.fs];unfold evL;rw[List.foldl_append];rfl,λj q hq=>?_⟩;rcases q6h j ps.length with hj|hj
 .rw[List.getElem?_append_left hj]at hq
  rw[q5X (by omega)];exact h.all j q hq
 .have hj':j=ps.length:=by
   rcases Nat.eq_or_lt_of_le hj with e|e
   .exact e.symm
   .rw[q5D (by simp;omega)]at hq;cases hq
  subst hj';rw[List.getElem?_append_right (q6d _),Nat.sub_self]at hq;simp at hq;subst hq
  rw[q5X (q6d _),q5Y,<-h.fs];exact⟨⟨hs.good,hs.goodA⟩,hs.tch,hs.nw⟩
theorem Mq{E:Env}{ops:Array Oper}{st0 st':WSt}{ps:List PI}{draw:Bool}{id:Nat}{Q:Exit->Act->World->Prop}{ro:Option Nat}{n:Nat}(hdf:Dfo ro ops)(hm:P.follows .mixedOrders=true)(h:Chain P E ops st0 ps st')(hlen:ps.length=ops.size)
  (hdraw:draw=true->okM ops.toList (masks 0 ops.toList [])=true/\okPl ops.toList.length (λi=>ps.getD i default) (masks 0 ops.toList [])=true/\(∀p∈ps,∀k∈p.nw,F6 st0 p.W k=true)/\ ∀v∈altV (masks 0 ops.toList []) 0 ps,v)
  (hQ: ∀a w H β,RepF E (j9 st'.toA) a w H β->Q .normal a w){a:Act}{w:World}{H:Heap}{β:Bm}(hrep:RepF E (j9 st0.toA) a w H β):(Code.region id ops draw).wpIn (Fw ro) n P Q a w:=by
 have hget: ∀i,i<ops.size->ps[i]?=some (ps.getD i default):=by
  intro i hi;rw[q5y,q5C (by omega)];rfl
 have hG: ∀i,i<ops.size->Good P E ops i ((λi=>ps.getD i default) i) (ev (λi=>ps.getD i default) (List.range i) (j9 st0.toA)):=by
  intro i hi;rw[F3 _ _ _ (by omega)];exact(h.all i _ (hget i hi)).1.1
 have hQ': ∀a w H β,RepF E (ev (λi=>ps.getD i default) (List.range ops.size) (j9 st0.toA)) a w H β->Q .normal a w:=by
  intro a w H β hr';rw[F3 _ _ _ (by omega),q5Z (by omega),<-h.fs]at hr';exact hQ a w H β hr'
 cases draw with
 |false=>
  refine Nf (pl:=λi=>ps.getD i default) hdf ?_ hG hQ' hrep;intro i hi k hk ℓ x hx hl;rw[F3 _ _ _ (by omega)]at hx;exact(h.all i _ (hget i hi)).2.2 k hk ℓ x hx hl
 |true=>
  obtain⟨c1,c2,c3,c4⟩:=hdraw rfl;refine Pq (pl:=λi=>ps.getD i default) hdf hm c1 (by simpa using c2) (by rw[<-hlen];exact Vn c4) ?_ ?_ hG ?_ hQ' hrep
  rotate_left 2
  .intro i hi ℓ x ha
   rw[F3 _ _ _ (by omega)];exact(h.all i _ (hget i hi)).1.2 ℓ x ha
  .intro j ℓ x hx k hk
   rcases q6h j ops.size with hj|hj
   .exact(h.all j _ (hget j hj)).2.1 ℓ x hx k hk
   .have:ps.getD j default=default:=by rw[q5y,q5D (by omega)];rfl
    simp only[this]at hx;cases hx
  .intro i hi k hk ℓ x hx hl
   exact(Gz (c3 _ (q5S (hget i hi)) k hk)).2 ℓ x hx hl
end
end
def disj(a b:List Nat):Bool:=a.all λk=>!v8 k b
def jY{α:Type}:List (Nat×α)->Bool
 |[]=>true
 |p::r=>r.all (λq=>!Nat.beq q.1 p.1)&&jY r
theorem zS{α:Type}: ∀{l:List (Nat×α)},jY l=true-> ∀{k:Nat}{v:α},(k,v)∈l->look l k=some v
 |(q,u)::r,h,k,v,hm=>by
  simp only[jY,q5m,q6N]at h;rcases q5O.1 hm with e|hm
  .cases e;simp[look]
  .have:=h.1 _ hm
   have hne:q≠k:=λe=>by subst e;simp at this
   simp only[look,jm hne,cond_false];exact zS h.2 hm
 |[],_,_,_,hm=>by simp at hm
theorem zr{α:Type}: ∀{l:List (Nat×α)}{f:Nat×α->Bool},jY l=true-> ∀{t:Nat}{v:α},look (l.filter f) t=some v->look l t=some v/\f (t,v)=true
 |l,f,hn,t,v,h=>by
  have:=q5R.1 (qR h);exact⟨zS hn this.1,this.2⟩
def EntW(n:Nat)(Ks:List Nat)(st st':WSt):Prop:=Ent n Ks st.toA st'.toA
theorem SH{n:Nat}{Ks:List Nat}{st st':WSt}(h1: ∀t v,qA st' t=some v->qA st t=some v)(h2: ∀k b,qm st' k=some b->qm st k=some b):EntW n Ks st st':=by
 intro E hn hK a w H β hr;refine⟨H,β,hr.sub λℓ x hx=>?_⟩;rcases q6l ℓ with e|e
 .obtain⟨t,rfl⟩: ∃t,ℓ=2*t:=⟨ℓ/2,by omega⟩
  rw[jy,vd]at hx⊢
  cases hv:qA st' t with
  |none=>rw[hv]at hx;cases hx
  |some v=>rw[hv]at hx;rw[h1 t v hv];exact hx
 .obtain⟨t,rfl⟩: ∃t,ℓ=2*t+1:=⟨ℓ/2,by omega⟩
  rw[qz,qJ]at hx⊢
  cases hv:qm st' t with
  |none=>rw[hv]at hx;cases hx
  |some v=>rw[hv]at hx;rw[h2 t v hv];exact hx
theorem En{n:Nat}{Ks:List Nat}{st st':WSt}(h1: ∀t v',qA st' t=some v'-> ∃v,qA st t=some v/\ ∀β H u,v.exp.sat β H u->v'.exp.sat β H u)
  (h2: ∀k b',qm st' k=some b'-> ∃b,qm st k=some b/\BImp k b.exp b'.exp):EntW n Ks st st':=by
 intro E hn hK a w H β hr;refine⟨H,β,⟨hr.defers,hr.size,?_,?_,?_,?_,hr.bor,hr.os,hr.tape,hr.output,hr.wsize,hr.frame,hr.hle,hr.hnew,hr.hon⟩⟩
 .intro t av ht
  rw[jy,vd]at ht
  cases hv:qA st' t with
  |none=>rw[hv]at ht;cases ht
  |some v'=>
   rw[hv]at ht;simp at ht;subst ht
   obtain⟨v,hl,hi⟩:=h1 t v' hv;obtain⟨u,hu,hs⟩:=hr.slot t v.exp (by rw[jy,vd,hl];rfl);exact⟨u,hu,hi _ _ _ hs⟩
 .intro k b hb
  rw[qz,qJ]at hb
  cases hv:qm st' k with
  |none=>rw[hv]at hb;cases hb
  |some b'=>
   rw[hv]at hb;simp at hb;subst hb
   obtain⟨b0,hl,hi⟩:=h2 k b' hv;exact hi _ _ _ (hr.blk k b0.exp (by rw[qz,qJ,hl];rfl))
 .intro k x b c hx
  rw[qz,qJ]at hx
  cases hv:qm st' k with
  |none=>rw[hv]at hx;cases hx
  |some b'=>
   obtain⟨b0,hl,hi⟩:=h2 k b' hv;exact hr.own k b0.exp b c (by rw[qz,qJ,hl];rfl)
 .intro k k' x x' b c c' hx hx'
  rw[qz,qJ]at hx hx'
  cases hv:qm st' k with
  |none=>rw[hv]at hx;cases hx
  |some b1=>
   cases hv':qm st' k' with
   |none=>rw[hv']at hx';cases hx'
   |some b2=>
    obtain⟨b0,hl,_⟩:=h2 k b1 hv;obtain⟨b0',hl',_⟩:=h2 k' b2 hv';exact hr.inj k k' b0.exp b0'.exp b c c' (by rw[qz,qJ,hl];rfl) (by rw[qz,qJ,hl'];rfl)
def Gi(st:WSt)(slot K:Nat)(k:Option Nat):Bool:=
 Nat.blt K 100000&&jY st.m&&jY st.L&&(look st.rm slot).isNone&&
  st.rm.all (λp=>!v8 K p.2.ids&&(match k with|some k=>!v8 k p.2.ids|none=>true))&&
  st.rL.all (λp=>!Nat.beq p.1 K&&!v8 K p.2.ids&&(match k with|some k=>!Nat.beq p.1 k&&!v8 k p.2.ids|none=>true))
def renM(slot K:Nat)(k:Option Nat)(p:Nat×WV):Bool:=!Nat.beq p.1 slot&&!v8 K p.2.ids&&(match k with|some k=>!v8 k p.2.ids|none=>true)
def renL(K:Nat)(k:Option Nat)(p:Nat×WB):Bool:=!Nat.beq p.1 K&&!v8 K p.2.ids&&(match k with|some k=>!Nat.beq p.1 k&&!v8 k p.2.ids|none=>true)
def A7(st:WSt)(slot K:Nat)(k:Option Nat)(v:WV)(B:WB):WSt:=⟨st.rm,(slot,v)::st.m.filter (renM slot K k),st.rL,(K,B)::st.L.filter (renL K k)⟩
def renG(slot K:Nat)(t:Ty)(b:Bd)(st:WSt):Option WSt:=
 match qA st slot with
 |some (.c (.one (.gs k n w nb)))=>bif Nat.beq k K then some st else(match look st.L k with
  |some (.gro t' b' l)=>bif Gi st slot K (some k)then some (A7 st slot K (some k) (.c (.one (.gs K n w nb))) (.gro t' b' l))else none
  |_=>none)
 |some (.c (.one a))=>bif zm a&&Gi st slot K none then some (A7 st slot K none (.c (.one (.gs K 0 t.w 0))) (.gro t b []))else none
 |_=>none
theorem Ac{α:Type}{l:List (Nat×α)}{f:Nat×α->Bool}{t:Nat}(h:look l t=none):look (l.filter f) t=none:=
 jX.2 λp hp=>(jX.1 h) p ((q5R.1 hp).1)
theorem LN{n:Nat}{Ks:List Nat}{st:WSt}(hk:st.Ok){slot K:Nat}{k:Option Nat}{v:WV}{t:Ty}{b0:Bd}{l:List t.den}(hr:Gi st slot K k=true){m w nb:Nat}(hvn:v= .c (.one (.gs K m w nb)))(hm:m<=nb)(hB:(WB.gro t b0 l).ok)
  (hold:(∃k0,k=some k0/\k0≠K/\qA st slot=some (.c (.one (.gs k0 m w nb)))/\look st.L k0=some (.gro t b0 l))\/(k=none/\m=0/\l=[]/\qA st slot=some (.c (.one (.vl (.slice none 0 0)))))):
  EntW n Ks st (A7 st slot K k v (.gro t b0 l))/\(A7 st slot K k v (.gro t b0 l)).Ok:=by
 unfold Gi at hr;simp only[q5m,q6N]at hr;obtain⟨⟨⟨⟨⟨r0,r1⟩,r2⟩,r3⟩,r4⟩,r5⟩:=hr;have r0:K<100000:=by simpa using r0
 have r3:look st.rm slot=none:=Option.isNone_iff_eq_none.1 r3
 have hslot: ∀t v',qA (A7 st slot K k v (.gro _ b0 l)) t=some v'->(t=slot/\v'=v)\/(t≠slot/\qA st t=some v'/\K∉v'.ids):=by
  intro t v' h;unfold qA A7 at h;simp only[look]at h;by_cases e:slot=t
  .subst e;simp at h;exact .inl ⟨rfl,h.symm⟩
  .rw[jm e]at h;simp only[cond_false]at h
   refine .inr ⟨λe'=>e e'.symm,?_⟩
   cases hf:look (st.m.filter (renM slot K k)) t with
   |some x=>
    rw[hf]at h;simp at h;subst h
    obtain⟨h1,h2⟩:=zr r1 hf;simp only[renM,q5m,q5o]at h2;exact⟨by unfold qA;rw[h1],λhm=>by rw[z9.2 hm]at h2;exact absurd h2.1.2 (by simp)⟩
   |none=>
    rw[hf]at h;simp only at h
    have h4:=(r4 _ (qR h));simp only[q5m,q5o]at h4;refine⟨?_,λhm=>by rw[z9.2 hm]at h4;exact absurd h4.1 (by simp)⟩;unfold qA;rw[hk.dm t (by rw[h];simp)];exact h
 have hblk: ∀q b',qm (A7 st slot K k v (.gro _ b0 l)) q=some b'->(q=K/\b'= .gro _ b0 l)\/(q≠K/\qm st q=some b'/\K∉b'.ids/\ ∀k0,k=some k0->q≠k0):=by
  intro q b' h;unfold qm A7 at h;simp only[look]at h;by_cases e:K=q
  .subst e;simp at h;exact .inl ⟨rfl,h.symm⟩
  .rw[jm e]at h;simp only[cond_false]at h
   refine .inr ⟨λe'=>e e'.symm,?_⟩
   cases hf:look (st.L.filter (renL K k)) q with
   |some x=>
    rw[hf]at h;simp at h;subst h
    obtain⟨h1,h2⟩:=zr r2 hf;simp only[renL,q5m,q5o]at h2;refine⟨by unfold qm;rw[h1],λhm=>by rw[z9.2 hm]at h2;exact absurd h2.1.2 (by simp),λk0 hk0 e=>?_⟩;subst hk0 e;simp at h2
   |none=>
    rw[hf]at h;simp only at h
    have h4:=(r5 _ (qR h));simp only[q5m,q5o]at h4;refine⟨?_,λhm=>by rw[z9.2 hm]at h4;exact absurd h4.1.2 (by simp),λk0 hk0 e=>?_⟩
    .unfold qm;rw[hk.dl q (by rw[h];simp)];exact h
    .subst hk0 e;simp at h4
 refine⟨?_,⟨λt v' h=>?_,λq b' h=>?_,λt ht=>?_,λq hq=>?_⟩⟩
 .intro E hn hK a w' H β hrep
  let β':Bm:=λq=>if q=K then(match k with|some k0=>β k0|none=>none)else β q
  have hβ: ∀q,q≠K->β' q=β q:=λq h=>if_neg h
  have hβK:β' K=(match k with|some k0=>β k0|none=>none):=if_pos rfl
  have holdL: ∀k0,k=some k0->look st.L k0=some (.gro _ b0 l)/\qm st k0=some (.gro _ b0 l):=by
   intro k0 h0;rcases hold with⟨k1,h1,_,_,h2⟩|⟨h1,_⟩
   .rw[h0]at h1;cases h1
    exact⟨h2,by unfold qm;rw[h2]⟩
   .rw[h0]at h1;cases h1
  have hcA: ∀(v':WV),K∉v'.ids-> ∀q,v'.exp.men q=true->β' q=β q:=λv' h q hq=>hβ q λe=>h (e▸WV.men_ids hq)
  have hcB: ∀(b':WB),K∉b'.ids-> ∀q,b'.exp.men q=true->β' q=β q:=λb' h q hq=>hβ q λe=>h (e▸WB.men_ids hq)
  have hrepL: ∀k0,k=some k0->(WB.gro _ b0 l).exp.rep β w' H k0:=λk0 h0=>hrep.blk k0 _ (by rw[qz,qJ,(holdL k0 h0).2];rfl)
  have hin: ∀q b',qm (A7 st slot K k v (.gro _ b0 l)) q=some b'-> ∀b c,β' q=some (b,c)-> ∃q0 x,j9 st.toA (2*q0+1)=some (.bl x)/\β q0=some (b,c)/\(q=K->k=some q0)/\(q≠K->q0=q):=by
   intro q b' h b c hb;rcases hblk q b' h with⟨rfl,rfl⟩|⟨h1,h2,h3,h4⟩
   .rw[hβK]at hb
    cases k with
    |none=>cases hb
    |some k0=>exact⟨k0,_,by rw[qz,qJ,(holdL k0 rfl).2];rfl,hb,λ_=>rfl,λh=>absurd rfl h⟩
   .rw[hβ q h1]at hb
    exact⟨q,_,by rw[qz,qJ,h2];rfl,hb,λh=>absurd h h1,λ_=>rfl⟩
  refine⟨H,β',⟨hrep.defers,hrep.size,?_,?_,?_,?_,λq hq=>?_,hrep.os,hrep.tape,hrep.output,hrep.wsize,hrep.frame,hrep.hle,hrep.hnew,hrep.hon⟩⟩
  .intro t av ht
   rw[jy,vd]at ht
   cases hv:qA (A7 st slot K k v (.gro _ b0 l)) t with
   |none=>rw[hv]at ht;cases ht
   |some v'=>
    rw[hv]at ht;simp at ht;subst ht
    rcases hslot t v' hv with⟨rfl,rfl⟩|⟨h1,h2,h3⟩
    .subst hvn
     rcases hold with⟨k0,rfl,hne,hs,hl⟩|⟨rfl,rfl,hl,hs⟩
     .obtain⟨u,hu,hsat⟩:=hrep.slot t _ (by rw[jy,vd,hs];rfl)
      refine⟨u,hu,?_⟩;rcases hsat with⟨h5,h6,h7⟩|⟨b,c,h5,h6⟩
      .exact .inl ⟨by rw[hβK];exact h5,h6,h7⟩
      .exact .inr ⟨b,c,by rw[hβK];exact h5,h6⟩
     .obtain⟨u,hu,hsat⟩:=hrep.slot t _ (by rw[jy,vd,hs];rfl)
      exact⟨u,hu,.inl ⟨hβK,rfl,hsat.1⟩⟩
    .obtain⟨u,hu,hsat⟩:=hrep.slot t _ (by rw[jy,vd,h2];rfl)
     exact⟨u,hu,AV.sat_congr (Heap.Le.refl _) (hcA v' h3) hsat⟩
  .intro q x hx
   rw[qz,qJ]at hx
   cases hv:qm (A7 st slot K k v (.gro _ b0 l)) q with
   |none=>rw[hv]at hx;cases hx
   |some b'=>
    rw[hv]at hx;simp at hx;subst hx
    rcases hblk q b' hv with⟨rfl,rfl⟩|⟨h1,h2,h3,h4⟩
    .rcases hold with⟨k0,rfl,hne,hs,hl⟩|⟨rfl,rfl,rfl,hs⟩
     .have hcell: ∀(vs:List Value),Sats β H (je t l) vs->Sats β' H (je t l) vs:=λvs h=>Sats.congr (Heap.Le.refl _) (λq hq=>by rw[zI]at hq;cases hq) h
      have h9:=hrepL k0 rfl;rcases h9 with⟨h5,h6⟩|⟨b,c,arr,T,h5,h6,h7,h8,h9⟩
      .exact .inl ⟨by rw[hβK];exact h5,h6⟩
      .refine .inr ⟨b,c,arr,T,by rw[hβK];exact h5,h6,h7,h8,?_⟩
       exact Sats.congr (Heap.Le.refl _) (λq hq=>by rw[zI]at hq;cases hq) h9
     .exact .inl ⟨hβK,rfl⟩
    .refine Blk.rep_congr (hrep.blk q b'.exp (by rw[qz,qJ,h2];rfl)) (Heap.Le.refl _) ?_ (λ_ _ _=>rfl)
     rintro q' (rfl|hq')
     .exact hβ _ h1
     .exact hcB b' h3 q' hq'
  .intro q x b c hx hb
   rw[qz,qJ]at hx
   cases hv:qm (A7 st slot K k v (.gro _ b0 l)) q with
   |none=>rw[hv]at hx;cases hx
   |some b'=>
    obtain⟨q0,y,h1,h2,_,_⟩:=hin q b' hv b c hb;exact hrep.own q0 y b c h1 h2
  .intro q q' x x' b c c' hx hx' hne hb hb'
   rw[qz,qJ]at hx hx'
   cases hv:qm (A7 st slot K k v (.gro _ b0 l)) q with
   |none=>rw[hv]at hx;cases hx
   |some b1=>
    cases hv':qm (A7 st slot K k v (.gro _ b0 l)) q' with
    |none=>rw[hv']at hx';cases hx'
    |some b2=>
     obtain⟨q0,y,h1,h2,h3,h4⟩:=hin q b1 hv b c hb;obtain⟨q0',y',h1',h2',h3',h4'⟩:=hin q' b2 hv' b c' hb';refine hrep.inj q0 q0' y y' b c c' h1 h1' ?_ h2 h2';intro e;by_cases eq:q=K
     .have k1:=h3 eq
      have hq':q'≠K:=λe'=>hne (eq.trans e'.symm)
      have:=h4' hq';rcases hblk q' b2 hv' with⟨e',_⟩|⟨_,_,_,h9⟩
      .exact hq' e'
      .exact h9 q0 k1 (by rw[<-this,e])
     .have:=h4 eq
      by_cases eq':q'=K
      .have k1:=h3' eq'
       rcases hblk q b1 hv with⟨e',_⟩|⟨_,_,_,h9⟩
       .exact eq e'
       .exact h9 q0' k1 (by rw[<-this,e])
      .exact hne (by rw[<-h4 eq,<-h4' eq',e])
  .rw[hβ q (λe=>by have:=E.hKs q hq;omega)];exact hrep.bor q hq
 .rcases hslot t v' h with⟨_,rfl⟩|⟨_,h2,_⟩
  .subst hvn;exact⟨hm,rfl⟩
  .exact hk.m t v' h2
 .rcases hblk q b' h with⟨_,rfl⟩|⟨_,h2,_⟩
  .exact hB
  .exact hk.l q b' h2
 .show look ((slot,v)::st.m.filter (renM slot K k)) t=none
  have hne:slot≠t:=λe=>ht (e▸r3)
  simp only[look,jm hne,cond_false];exact Ac (hk.dm t ht)
 .show look ((K,WB.gro t b0 l)::st.L.filter (renL K k)) q=none
  have hq':look st.rL q≠none:=hq;obtain⟨x,hx⟩:=Option.ne_none_iff_exists'.1 hq';have h4:=(r5 _ (qR hx));simp only[q5m,q5o]at h4;have hne:K≠q:=λe=>by subst e;simp at h4
  simp only[look,jm hne,cond_false];exact Ac (hk.dl q hq')
theorem Fl{n:Nat}{Ks:List Nat}{st st':WSt}(hk:st.Ok){slot K:Nat}{t:Ty}{b:Bd}(h:renG slot K t b st=some st'):EntW n Ks st st'/\st'.Ok/\st'.rm=st.rm/\st'.rL=st.rL:=by
 unfold renG at h;split at h
 .rename_i k m w nb hl
  cases hb:Nat.beq k K with
  |true=>rw[hb]at h;simp at h;subst h;exact⟨Ent.refl,hk,rfl,rfl⟩
  |false=>
   rw[hb]at h;simp only[cond_false]at h
   split at h
   .rename_i t' b' l hL
    cases hr:Gi st slot K (some k)with
    |false=>rw[hr]at h;cases h
    |true=>
     rw[hr]at h;simp at h;subst h
     have hB:(WB.gro t' b' l).ok:=hk.l k _ (by unfold qm;rw[hL]);obtain⟨h1,h2⟩:=LN (n:=n) (Ks:=Ks) hk hr rfl (hk.m slot _ hl).1 hB (.inl ⟨k,rfl,(λe=>by subst e;simp at hb),hl,hL⟩);exact⟨h1,h2,rfl,rfl⟩
   .cases h
 .rename_i a hne hl
  cases hc:zm a&&Gi st slot K none with
  |false=>rw[hc]at h;cases h
  |true=>
   rw[hc]at h;simp at h;subst h
   simp only[q5m]at hc;have:=wt hc.1;subst this
   obtain⟨h1,h2⟩:=LN (n:=n) (Ks:=Ks) (t:=t) (b0:=b) (l:=[]) hk hc.2 rfl (q6d 0) (λx hx=>by simp at hx) (.inr ⟨rfl,rfl,rfl,hl⟩);exact⟨h1,h2,rfl,rfl⟩
 .cases h
def frzA(k:Nat)(t:Ty)(b:Bd)(l:List t.den)(full:Bool)(gr:Bool):WA->Option (WA×List Prop)
 | .ls k' lo n cap w nb=>bif Nat.beq k' k then(bif Nat.beq w t.w then(match full,lo with
   |true,none=>some (.dt (.sl t) (.s nb b) l,[n=l.length])
   |false,none=>some (.dt (.sl t) (.s nb b) (l.take n),[n<=l.length])
   |false,some o=>some (.dt (.sl t) (.s nb b) ((l.drop o).take n),[o+n<=l.length])
   |true,some _=>none)else none)else some (.ls k' lo n cap w nb,[])
 | .gs k' n w nb=>bif Nat.beq k' k then(bif Nat.beq w t.w&&Nat.blt 0 t.w&&gr then(match full with
   |true=>some (.dt (.sl t) (.s nb b) l,[n=l.length])
   |false=>some (.dt (.sl t) (.s nb b) (l.take n),[n<=l.length]))else none)else some (.gs k' n w nb,[])
 |a=>bif v8 k a.ids then none else some (a,[])
def gOf(t:Ty)(gr:Bool):Option Nat:=bif gr then some t.w else none
theorem JW{k:Nat}{t:Ty}{b:Bd}{l:List t.den}{full gr:Bool}{a a':WA}{vc:List Prop}(h:frzA k t b l full gr a=some (a',vc))(hl: ∀x∈l,Bnd t b x)(hok:a.ok)(hvc: ∀p∈vc,p):
  RelAs k (jb t l) (gOf t gr) a.exp a'.exp/\a'.ok/\a'.wd=a.wd:=by
 unfold frzA at h;split at h
 .rename_i k' lo n cap w nb
  cases hk:Nat.beq k' k with
  |false=>rw[hk]at h;simp at h;obtain⟨rfl,rfl⟩:=h;exact⟨Bq,hok,rfl⟩
  |true=>
   have:=q68 hk;subst this
   rw[hk]at h;simp only[cond_true]at h
   cases hw:Nat.beq w t.w with
   |false=>rw[hw]at h;cases h
   |true=>
    have:=q68 hw;subst this
    rw[hw]at h;simp only[cond_true]at h
    have ho:n<=cap/\n<=nb:=hok;split at h
    .simp only[q6E,q6F]at h;obtain⟨rfl,rfl⟩:=h
     have e:n=l.length:=hvc _ q5Q;subst e;refine⟨⟨Pn (l:=0) (es:=t.w) (by simp) ho.1 (by rw[v4];omega) (by rw[q6B,q5v,q5Z (by rw[v4];exact q6d _)];rfl),trivial⟩,⟨ho.2,hl⟩,rfl⟩
    .simp only[q6E,q6F]at h;obtain⟨rfl,rfl⟩:=h
     have e:n<=l.length:=hvc _ q5Q;have hle:n*t.w<=l.length*t.w:=q6r _ e;have hlen:(l.take n).length=n:=by rw[q5L];omega
     refine⟨⟨?_,trivial⟩,⟨by show(l.take n).length<=nb;omega,λx hx=>hl x (q5T hx)⟩,rfl⟩;show RelA _ _ _ (.sl k' ((none:Option Nat).getD 0*t.w) n cap) (.abs (flP (jb t (l.take n)) (l.take n).length));rw[hlen];exact Pn (l:=0) (es:=t.w) (by simp) ho.1 (by rw[v4];omega) (by rw[q6B,q5v,A9])
    .rename_i o
     simp only[q6E,q6F]at h;obtain⟨rfl,rfl⟩:=h
     have e:o+n<=l.length:=hvc _ q5Q;have hle:(o+n)*t.w<=l.length*t.w:=q6r _ e;have hlen:((l.drop o).take n).length=n:=by rw[q5L,q5I];omega
     refine⟨⟨?_,trivial⟩,⟨by show((l.drop o).take n).length<=nb;omega,λx hx=>hl x (q6V (q5T hx))⟩,rfl⟩;show RelA _ _ _ (.sl k' ((some o).getD 0*t.w) n cap) (.abs (flP (jb t ((l.drop o).take n)) ((l.drop o).take n).length));rw[hlen];exact Pn (l:=o) (es:=t.w) (by simp) ho.1 (by rw[v4,<-q63];exact hle) (by rw[BH,A9])
    .cases h
 .rename_i k' n w nb
  cases hk:Nat.beq k' k with
  |false=>rw[hk]at h;simp at h;obtain⟨rfl,rfl⟩:=h;exact⟨Bq,hok,rfl⟩
  |true=>
   have:=q68 hk;subst this
   rw[hk]at h;simp only[cond_true]at h
   cases hw:Nat.beq w t.w&&Nat.blt 0 t.w&&gr with
   |false=>rw[hw]at h;cases h
   |true=>
    simp only[q5m]at hw;obtain⟨⟨hw1,hw2⟩,hw3⟩:=hw;have e:=q68 hw1;subst e
    have h0:0<t.w:=by simpa using hw2
    subst hw3;have hb0:(Nat.beq t.w t.w&&Nat.blt 0 t.w&&true)=true:=by simp[h0]
    rw[hb0]at h;simp only[cond_true]at h;have ho:n<=nb:=hok;split at h
    .simp only[q6E,q6F]at h;obtain⟨rfl,rfl⟩:=h
     have e:n=l.length:=hvc _ q5Q;subst e;exact⟨⟨q4U rfl h0 (by rw[v4]),trivial⟩,⟨ho,hl⟩,rfl⟩
    .simp only[q6E,q6F]at h;obtain⟨rfl,rfl⟩:=h
     have e:n<=l.length:=hvc _ q5Q;have hle:n*t.w<=l.length*t.w:=q6r _ e;have hlen:(l.take n).length=n:=by rw[q5L];omega
     refine⟨⟨?_,trivial⟩,⟨by show(l.take n).length<=nb;omega,λx hx=>hl x (q5T hx)⟩,rfl⟩;show RelA _ _ _ (.gs k' n) (.abs (flP (jb t (l.take n)) (l.take n).length));rw[hlen];exact q2N rfl h0 (by rw[v4];exact hle) (by rw[A9])
 .cases hm:v8 k a.ids with
  |true=>rw[hm]at h;cases h
  |false=>rw[hm]at h;simp at h;obtain⟨rfl,rfl⟩:=h;exact⟨Bq,hok,rfl⟩
def Eu(k:Nat)(t:Ty)(b:Bd)(l:List t.den)(full gr:Bool):List WA->Option (List WA×List Prop)
 |[]=>some ([],[])
 |a::r=>match frzA k t b l full gr a with
  |some (a',v)=>match Eu k t b l full gr r with
   |some (r',v')=>some (a'::r',v++v')
   |none=>none
  |none=>none
theorem RelAs.app{k:Nat}{cells:List CAtom}{g:Option Nat}: ∀{a a' b b':List Atom},RelAs k cells g a a'->RelAs k cells g b b'->RelAs k cells g (a++b) (a'++b')
 |[],[],_,_,_,h=>h
 |_::_,_::_,_,_,h,k=>⟨h.1,RelAs.app h.2 k⟩
 |[],_::_,_,_,h,_=>h.elim
 |_::_,[],_,_,h,_=>h.elim
theorem Ev{k:Nat}{t:Ty}{b:Bd}{l:List t.den}{full gr:Bool}(hl: ∀x∈l,Bnd t b x): ∀{zs zs':List WA}{vc:List Prop},Eu k t b l full gr zs=some (zs',vc)->WAs.ok zs->(∀p∈vc,p)->
  RelAs k (jb t l) (gOf t gr) (WAs.exp zs) (WAs.exp zs')/\WAs.ok zs'
 |[],zs',vc,h,_,_=>by simp[Eu]at h;obtain⟨rfl,rfl⟩:=h;exact⟨trivial,λa ha=>by simp at ha⟩
 |a::r,zs',vc,h,hok,hvc=>by
  simp only[Eu]at h
  cases h1:frzA k t b l full gr a with
  |none=>rw[h1]at h;cases h
  |some q=>
   obtain⟨a',v⟩:=q;rw[h1]at h;simp only at h
   cases h2:Eu k t b l full gr r with
   |none=>rw[h2]at h;cases h
   |some q=>
    obtain⟨r',v'⟩:=q;rw[h2]at h;simp at h;obtain⟨rfl,rfl⟩:=h
    rw[WAs.ok_cons]at hok;obtain⟨p1,p2⟩:=AllP.app hvc;obtain⟨q1,q2,q3⟩:=JW h1 hl hok.1 p1;obtain⟨q4,q5⟩:=Ev hl h2 hok.2 p2;rw[WAs.exp_cons,WAs.exp_cons];exact⟨RelAs.app q1 q4,WAs.ok_cons.2 ⟨q2,q5⟩⟩
def frzV(k:Nat)(t:Ty)(b:Bd)(l:List t.den)(full gr:Bool):WV->Option (WV×List Prop)
 | .c (.one a)=>match frzA k t b l full gr a with
  |some (a',v)=>some (.c (.one a'),v)
  |none=>none
 | .c (.agg zs)=>match Eu k t b l full gr zs with
  |some (zs',v)=>some (.c (.agg zs'),v)
  |none=>none
 | .tup _=>none
theorem QD{k:Nat}{t:Ty}{b:Bd}{l:List t.den}{full gr:Bool}(hl: ∀x∈l,Bnd t b x){v v':WV}{vc:List Prop}(h:frzV k t b l full gr v=some (v',vc))(hok:v.ok)(hvc: ∀p∈vc,p):
  RelV k (jb t l) (gOf t gr) v.exp v'.exp/\v'.ok:=by
 unfold frzV at h;split at h
 .rename_i a
  split at h
  .rename_i a' w ha
   simp only[q6E,q6F]at h;obtain⟨rfl,rfl⟩:=h
   obtain⟨q1,q2,q3⟩:=JW ha hl hok.1 hvc;refine⟨?_,q2,by rw[q3];exact hok.2⟩;rw[WA.exp_one hok.2,WA.exp_one (a:=a') (by rw[q3];exact hok.2)]at q1;exact RW q1.1
  .cases h
 .rename_i zs
  split at h
  .rename_i zs' w ha
   simp only[q6E,q6F]at h;obtain⟨rfl,rfl⟩:=h
   obtain⟨q1,q2⟩:=Ev hl ha hok hvc;exact⟨q2Y q1,q2⟩
  .cases h
 .cases h
def Gu(k:Nat)(t:Ty)(b:Bd)(l:List t.den)(full gr:Bool)(ts:List Nat):List (Nat×WV)->Option (List (Nat×WV)×List Prop)
 |[]=>some ([],[])
 |p::r=>match Gu k t b l full gr ts r with
  |none=>none
  |some (r',v)=>bif v8 k p.2.ids then(bif v8 p.1 ts then(match frzV k t b l full gr p.2 with
    |some (x,v')=>some ((p.1,x)::r',v'++v)
    |none=>none)else some (r',v))else some (p::r',v)
theorem IO{k:Nat}{t:Ty}{b:Bd}{l:List t.den}{full gr:Bool}{ts:List Nat}(hl: ∀x∈l,Bnd t b x): ∀{m m':List (Nat×WV)}{vc:List Prop},Gu k t b l full gr ts m=some (m',vc)->(∀p∈m,p.2.ok)->(∀p∈vc,p)->
  ∀q∈m',∃p∈m,p.1=q.1/\RelV k (jb t l) (gOf t gr) p.2.exp q.2.exp/\q.2.ok
 |[],m',vc,h,_,_,q,hq=>by simp[Gu]at h;obtain⟨rfl,rfl⟩:=h;simp at hq
 |p::r,m',vc,h,hok,hvc,q,hq=>by
  simp only[Gu]at h
  cases h1:Gu k t b l full gr ts r with
  |none=>rw[h1]at h;cases h
  |some z=>
   obtain⟨r',v⟩:=z;rw[h1]at h;simp only at h
   have ih:=λhvc'=>IO hl h1 (λp hp=>hok p (q5P _ hp)) hvc'
   cases h2:v8 k p.2.ids with
   |false=>
    rw[h2]at h;simp at h;obtain⟨rfl,rfl⟩:=h
    rcases q5O.1 hq with rfl|hq
    .exact⟨q,q5Q,rfl,Gn,hok q q5Q⟩
    .obtain⟨p',hp',h3⟩:=ih hvc q hq;exact⟨p',q5P _ hp',h3⟩
   |true=>
    rw[h2]at h;simp only[cond_true]at h
    cases h3:v8 p.1 ts with
    |false=>
     rw[h3]at h;simp at h;obtain⟨rfl,rfl⟩:=h
     obtain⟨p',hp',h4⟩:=ih hvc q hq;exact⟨p',q5P _ hp',h4⟩
    |true=>
     rw[h3]at h;simp only[cond_true]at h
     split at h
     .rename_i x v' hx
      simp only[q6E,q6F]at h;obtain⟨rfl,rfl⟩:=h
      obtain⟨p1,p2⟩:=AllP.app hvc;rcases q5O.1 hq with rfl|hq
      .obtain⟨q1,q2⟩:=QD hl hx (hok p q5Q) p1
       exact⟨p,q5Q,rfl,q1,q2⟩
      .obtain⟨p',hp',h4⟩:=ih p2 q hq;exact⟨p',q5P _ hp',h4⟩
     .cases h
def frzL(k:Nat)(t:Ty)(b:Bd)(l:List t.den)(full gr:Bool):List (Nat×WB)->Option (List (Nat×WB)×List Prop)
 |[]=>some ([],[])
 |p::r=>match frzL k t b l full gr r with
  |none=>none
  |some (r',v)=>bif Nat.beq p.1 k then some (r',v)else bif v8 k p.2.ids then(match p.2 with
    | .rig zs=>match Eu k t b l full gr zs with
     |some (zs',v')=>some ((p.1,.rig zs')::r',v'++v)
     |none=>none
    |_=>none)else some (p::r',v)
theorem JX{k:Nat}{t:Ty}{b:Bd}{l:List t.den}{full gr:Bool}(hl: ∀x∈l,Bnd t b x): ∀{m m':List (Nat×WB)}{vc:List Prop},frzL k t b l full gr m=some (m',vc)->(∀p∈m,p.2.ok)->(∀p∈vc,p)->
  ∀q∈m',q.1≠k/\ ∃p∈m,p.1=q.1/\RelB k (jb t l) (gOf t gr) p.2.exp q.2.exp/\q.2.ok
 |[],m',vc,h,_,_,q,hq=>by simp[frzL]at h;obtain⟨rfl,rfl⟩:=h;simp at hq
 |p::r,m',vc,h,hok,hvc,q,hq=>by
  simp only[frzL]at h
  cases h1:frzL k t b l full gr r with
  |none=>rw[h1]at h;cases h
  |some z=>
   obtain⟨r',v⟩:=z;rw[h1]at h;simp only at h
   have ih:=λhvc'=>JX hl h1 (λp hp=>hok p (q5P _ hp)) hvc'
   cases h0:Nat.beq p.1 k with
   |true=>
    rw[h0]at h;simp at h;obtain⟨rfl,rfl⟩:=h
    obtain⟨h3,p',hp',h4⟩:=ih hvc q hq;exact⟨h3,p',q5P _ hp',h4⟩
   |false=>
    have hne:p.1≠k:=λe=>by rw[e]at h0;simp at h0
    rw[h0]at h;simp only[cond_false]at h
    cases h2:v8 k p.2.ids with
    |false=>
     rw[h2]at h;simp at h;obtain⟨rfl,rfl⟩:=h
     rcases q5O.1 hq with rfl|hq
     .exact⟨hne,q,q5Q,rfl,Jm,hok q q5Q⟩
     .obtain⟨h3,p',hp',h4⟩:=ih hvc q hq;exact⟨h3,p',q5P _ hp',h4⟩
    |true=>
     rw[h2]at h;simp only[cond_true]at h
     split at h
     .rename_i zs hp2
      split at h
      .rename_i zs' v' hx
       simp only[q6E,q6F]at h;obtain⟨rfl,rfl⟩:=h
       obtain⟨p1,p2⟩:=AllP.app hvc;rcases q5O.1 hq with rfl|hq
       .have hok1:WAs.ok zs:=by have:=hok p q5Q;rw[hp2]at this;exact this
        obtain⟨q1,q2⟩:=Ev hl hx hok1 p1;exact⟨hne,p,q5Q,rfl,by rw[hp2];exact Tu q1,q2⟩
       .obtain⟨h3,p',hp',h4⟩:=ih p2 q hq;exact⟨h3,p',q5P _ hp',h4⟩
      .cases h
     .cases h
structure PExt where
 f:List Nat->WSt->Option (List Prop×WSt)
 h: ∀{n:Nat}{Ks:List Nat}{st st':WSt}{vc:List Prop},st.Ok->f Ks st=some (vc,st')->(∀p∈vc,p)->EntW n Ks st st'/\st'.Ok/\st'.rm=st.rm/\st'.rL=st.rL
inductive PreOp where
 |ex (X:PExt)
 |frz (k:Nat) (full:Bool) (ts:List Nat)
 |ren (slot K:Nat) (t:Ty) (b:Bd)
 |drop (ts:List Nat)
 |bd (slot:Nat) (b:Bd)
def FW(Ks:List Nat)(st:WSt)(k:Nat):Bool:=
 Nat.blt k 100000&&jY st.m&&jY st.L&&Ks.all (λk0=>(qm st k0).isSome)&&st.rm.all (λp=>!v8 k p.2.ids)&&st.rL.all (λp=>!Nat.beq p.1 k&&!v8 k p.2.ids)
def Kx(Ks:List Nat)(st:WSt)(k:Nat)(t:Ty)(b:Bd)(l:List t.den)(full gr:Bool)(ts:List Nat):Option (List Prop×WSt):=
 bif FW Ks st k then(match Gu k t b l full gr ts st.m with
  |some (m',v1)=>match frzL k t b l full gr st.L with
   |some (L',v2)=>some (v1++v2,⟨st.rm,m',st.rL,L'⟩)
   |none=>none
  |none=>none)else none
def CD(ts:List Nat)(st:WSt):WSt:=⟨st.rm,st.m.filter (λp=>!v8 p.1 ts),st.rL,st.L⟩
theorem Na{n:Nat}{Ks:List Nat}{st:WSt}(hk:st.Ok){ts:List Nat}(hn:jY st.m=true):EntW n Ks st (CD ts st)/\(CD ts st).Ok/\(CD ts st).rm=st.rm/\(CD ts st).rL=st.rL:=by
 have h1: ∀t v,qA (CD ts st) t=some v->qA st t=some v:=by
  intro t v h;unfold qA CD at h;simp only at h;unfold qA
  cases hf:look (st.m.filter (λp=>!v8 p.1 ts)) t with
  |some x=>rw[hf]at h;rw[(zr hn hf).1];exact h
  |none=>rw[hf]at h;simp only at h;rw[hk.dm t (by rw[h];simp)];exact h
 refine⟨SH h1 (λk b h=>h),⟨λt v h=>hk.m t v (h1 t v h),λk b h=>hk.l k b h,λt ht=>Ac (hk.dm t ht),λk hk'=>hk.dl k hk'⟩,rfl,rfl⟩
def setV(st:WSt)(slot:Nat)(v:WV):WSt:=⟨st.rm,(slot,v)::st.m.filter (λp=>!Nat.beq p.1 slot),st.rL,st.L⟩
theorem Dm{n:Nat}{Ks:List Nat}{st:WSt}(hk:st.Ok){slot:Nat}{v v2:WV}(hn:jY st.m=true)(hl:look st.m slot=some v)(he:v2.exp=v.exp)(ho:v2.ok):EntW n Ks st (setV st slot v2)/\(setV st slot v2).Ok/\(setV st slot v2).rm=st.rm/\(setV st slot v2).rL=st.rL:=by
 have hM:qA st slot=some v:=by unfold qA;rw[hl]
 have h1: ∀q u,qA (setV st slot v2) q=some u->(q=slot/\u=v2)\/qA st q=some u:=by
  intro q u h;unfold qA setV at h;simp only[look]at h;by_cases e:slot=q
  .subst e;simp at h;exact .inl ⟨rfl,h.symm⟩
  .rw[jm e]at h;simp only[cond_false]at h
   refine .inr ?_;unfold qA
   cases hf:look (st.m.filter (λp=>!Nat.beq p.1 slot)) q with
   |some y=>rw[hf]at h;rw[(zr hn hf).1];exact h
   |none=>rw[hf]at h;simp only at h;rw[hk.dm q (by rw[h];simp)];exact h
 refine⟨En (λq v' h=>?_) (λk b' h=>⟨b',h,λ_ _ _ h=>h⟩),⟨λq u h=>?_,λk b h=>hk.l k b h,λq hq=>?_,λk hk'=>hk.dl k hk'⟩,rfl,rfl⟩
 .rcases h1 q v' h with⟨rfl,rfl⟩|h
  .exact⟨_,hM,λ_ _ _ h=>he▸h⟩
  .exact⟨v',h,λ_ _ _ h=>h⟩
 .rcases h1 q u h with⟨rfl,rfl⟩|h
  .exact ho
  .exact hk.m q u h
 .show look ((slot,_)::st.m.filter (λp=>!Nat.beq p.1 slot)) q=none
  have hne:slot≠q:=λe=>by subst e;rw[hk.dm slot hq]at hl;cases hl
  simp only[look,jm hne,cond_false];exact Ac (hk.dm q hq)
def bdTo(slot:Nat)(b:Bd)(st:WSt):Option (List Prop×WSt):=
 match look st.m slot with
 |some (.c (.one (.dt t b' x)))=>bif jY st.m then some ([Bnd t b x],setV st slot (.c (.one (.dt t b x))))else none
 |some (.c (.agg [.dt t b' x]))=>bif jY st.m then some ([Bnd t b x],setV st slot (.c (.agg [.dt t b x])))else none
 |_=>none
theorem PS{n:Nat}{Ks:List Nat}{st st':WSt}(hk:st.Ok){slot:Nat}{b:Bd}{vc:List Prop}(h:bdTo slot b st=some (vc,st'))(hvc: ∀p∈vc,p):EntW n Ks st st'/\st'.Ok/\st'.rm=st.rm/\st'.rL=st.rL:=by
 unfold bdTo at h;split at h
 .rename_i t b' x hl
  cases hn:jY st.m with
  |false=>rw[hn]at h;cases h
  |true=>
   rw[hn]at h;simp only[cond_true,q6E,q6F]at h;obtain⟨rfl,rfl⟩:=h
   have h0:(WV.c (.one (.dt t b' x))).ok:=hk.m slot _ (by unfold qA;rw[hl]);exact Dm hk hn hl rfl ⟨hvc _ q5Q,h0.2⟩
 .rename_i t b' x hl
  cases hn:jY st.m with
  |false=>rw[hn]at h;cases h
  |true=>
   rw[hn]at h;simp only[cond_true,q6E,q6F]at h;obtain⟨rfl,rfl⟩:=h
   exact Dm hk hn hl rfl (v9 (hvc _ q5Q))
 .cases h
def GL(Ks:List Nat)(A:PreOp)(st:WSt):Option (List Prop×WSt):=
 match A with
 | .ex X=>X.f Ks st
 | .frz k full ts=>match look st.L k with
  |some (.arr t b l)=>Kx Ks st k t b l full false ts
  |some (.gro t b l)=>Kx Ks st k t b l full true ts
  |_=>none
 | .ren slot K t b=>match renG slot K t b st with
  |some st'=>some ([],st')
  |none=>none
 | .drop ts=>bif jY st.m then some ([],CD ts st)else none
 | .bd slot b=>bdTo slot b st
theorem HU{n:Nat}{Ks:List Nat}{st st':WSt}(hk:st.Ok){k:Nat}{t:Ty}{b:Bd}{l:List t.den}{full gr:Bool}{ts:List Nat}{vc:List Prop}(h:Kx Ks st k t b l full gr ts=some (vc,st'))(hvc: ∀p∈vc,p)
  (hL:(gr=false/\look st.L k=some (.arr t b l))\/(gr=true/\look st.L k=some (.gro t b l))):EntW n Ks st st'/\st'.Ok/\st'.rm=st.rm/\st'.rL=st.rL:=by
 unfold Kx at h
 cases hc:FW Ks st k with
 |false=>rw[hc]at h;cases h
 |true=>
  rw[hc]at h;simp only[cond_true]at h
  unfold FW at hc;simp only[q5m,q6N]at hc;obtain⟨⟨⟨⟨⟨c0,c1⟩,c2⟩,c3⟩,c4⟩,c5⟩:=hc;split at h
  .rename_i m' v1 hm
   split at h
   .rename_i L' v2 hLL
    simp only[q6E,q6F]at h;obtain⟨rfl,rfl⟩:=h
    obtain⟨p1,p2⟩:=AllP.app hvc
    have hlk:qm st k=some (bif gr then .gro t b l else .arr t b l):=by
     unfold qm;rcases hL with⟨rfl,h⟩|⟨rfl,h⟩<;>rw[h]<;>rfl
    have hlb: ∀x∈l,Bnd t b x:=by
     have:=hk.l k _ hlk;cases gr<;>exact this
    have hmok: ∀p∈st.m,p.2.ok:=λp hp=>hk.m p.1 p.2 (by unfold qA;rw[zS c1 hp])
    have hLok: ∀p∈st.L,p.2.ok:=λp hp=>hk.l p.1 p.2 (by unfold qm;rw[zS c2 hp])
    have sm:=IO hlb hm hmok p1;have sL:=JX hlb hLL hLok p2
    have hM: ∀t' v',qA ⟨st.rm,m',st.rL,L'⟩ t'=some v'-> ∃v,qA st t'=some v/\RelV k (jb t l) (gOf t gr) v.exp v'.exp/\v'.ok:=by
     intro t' v' hv;unfold qA at hv;simp only at hv
     cases hl:look m' t' with
     |some x=>
      rw[hl]at hv;simp at hv;subst hv
      obtain⟨p,hp,e,h1,h2⟩:=sm _ (qR hl);have e':p.1=t':=e;exact⟨p.2,by unfold qA;rw[<-e',zS c1 hp],h1,h2⟩
     |none=>
      rw[hl]at hv;simp only at hv
      have h3:qA st t'=some v':=by unfold qA;rw[hk.dm t' (by rw[hv];simp)];exact hv
      exact⟨v',h3,Gn,hk.m t' v' h3⟩
    have hB: ∀q b',qm ⟨st.rm,m',st.rL,L'⟩ q=some b'->q≠k/\ ∃b0,qm st q=some b0/\RelB k (jb t l) (gOf t gr) b0.exp b'.exp/\b'.ok:=by
     intro q b' hv;unfold qm at hv;simp only at hv
     cases hl:look L' q with
     |some x=>
      rw[hl]at hv;simp at hv;subst hv
      obtain⟨hne,p,hp,e,h1,h2⟩:=sL _ (qR hl);have e':p.1=q:=e;exact⟨hne,p.2,by unfold qm;rw[<-e',zS c2 hp],h1,h2⟩
     |none=>
      rw[hl]at hv;simp only at hv
      have h3:qm st q=some b':=by unfold qm;rw[hk.dl q (by rw[hv];simp)];exact hv
      have h4:=c5 _ (qR hv);simp only[q5m,q5o]at h4;exact⟨λe=>by subst e;simp at h4,b',h3,Jm,hk.l q b' h3⟩
    refine⟨?_,⟨λt' v' h=>(hM t' v' h).choose_spec.2.2,λq b' h=>(hB q b' h).2.choose_spec.2.2,?_,?_⟩,rfl,rfl⟩
    .refine LO (k:=k) (cells:=jb t l) (g:=gOf t gr) c0 (λk0 hk0=>?_) ?_ ?_ ?_
     .rw[qJ]
      obtain⟨x,hx⟩:=Option.isSome_iff_exists.1 (c3 k0 hk0);rw[hx];simp
     .rw[qJ,hlk]
      cases gr with
      |false=>exact .inl ⟨rfl,by simp only[cond_false,q6D,WB.exp,vU]⟩
      |true=>exact .inr ⟨t.w,rfl,by simp only[cond_true,q6D,WB.exp,vU]⟩
     .intro t' av' hv
      rw[vd]at hv
      cases hl:qA ⟨st.rm,m',st.rL,L'⟩ t' with
      |none=>rw[hl]at hv;cases hv
      |some v'=>
       rw[hl]at hv;simp at hv;subst hv
       obtain⟨v,h1,h2,_⟩:=hM t' v' hl;exact⟨v.exp,by rw[vd,h1];rfl,h2⟩
     .intro q b' hv
      rw[qJ]at hv
      cases hl:qm ⟨st.rm,m',st.rL,L'⟩ q with
      |none=>rw[hl]at hv;cases hv
      |some b1=>
       rw[hl]at hv;simp at hv;subst hv
       obtain⟨h0,b0,h1,h2,_⟩:=hB q b1 hl;exact⟨h0,b0.exp,by rw[qJ,h1];rfl,h2⟩
    .intro t' ht'
     show look m' t'=none;refine jX.2 λq hq e=>?_
     obtain⟨p,hp,e',_⟩:=sm q hq;exact absurd e (λe=>(jX.1 (hk.dm t' ht')) p hp (e'.trans e))
    .intro q hq
     show look L' q=none;refine jX.2 λq' hq' e=>?_
     obtain⟨_,p,hp,e',_⟩:=sL q' hq';exact(jX.1 (hk.dl q hq)) p hp (e'.trans e)
   .cases h
  .cases h
theorem Kk{n:Nat}{Ks:List Nat}{A:PreOp}{st st':WSt}(hk:st.Ok){vc:List Prop}(h:GL Ks A st=some (vc,st'))(hvc: ∀p∈vc,p):EntW n Ks st st'/\st'.Ok/\st'.rm=st.rm/\st'.rL=st.rL:=by
 unfold GL at h;split at h
 .rename_i X;exact X.h hk h hvc
 .split at h
  .rename_i hl;exact HU hk h hvc (.inl ⟨rfl,hl⟩)
  .rename_i hl;exact HU hk h hvc (.inr ⟨rfl,hl⟩)
  .cases h
 .split at h
  .rename_i s hs
   simp only[q6E,q6F]at h;obtain⟨rfl,rfl⟩:=h
   exact Fl hk hs
  .cases h
 .rename_i ts
  cases hn:jY st.m with
  |false=>rw[hn]at h;cases h
  |true=>
   rw[hn]at h;simp only[cond_true,q6E,q6F]at h;obtain⟨rfl,rfl⟩:=h
   exact Na hk hn
 .exact PS hk h hvc
section
structure HavX where
 t:Ty
 bnd:t.den->Prop
 ss:List Nat
 bs:List Nat
 gb:List Nat
 m:t.den->List (Nat×WV)
 L:t.den->List (Nat×WB)
 val:WSt->Option (List Prop×t.den)
 ren:WSt->Option WSt
 hm: ∀{x:t.den},bnd x-> ∀p∈m x,p.1∈ss/\p.2.ok
 hL: ∀{x:t.den},bnd x-> ∀p∈L x,p.1∈bs/\p.2.ok
 hval: ∀{st:WSt}{vc:List Prop}{x:t.den},st.Ok->val st=some (vc,x)->(∀p∈vc,p)->bnd x/\
  (∀p∈m x,look st.rm p.1=none/\ ∃v,qA st p.1=some v/\ ∀β H u,v.exp.sat β H u->p.2.exp.sat β H u)/\
  (∀p∈L x,look st.rL p.1=none/\ ∃b,qm st p.1=some b/\BImp p.1 b.exp p.2.exp)
 hren: ∀{n:Nat}{Ks:List Nat}{st st':WSt},st.Ok->ren st=some st'->EntW n Ks st st'/\st'.Ok/\st'.rm=st.rm/\st'.rL=st.rL
inductive Hav where
 |ex (X:HavX)
 |s (slot:Nat) (t:Ty) (b:Bd)
 |a (k:Nat) (t:Ty) (b:Bd)
 |bk (k:Nat) (t:Ty) (b:Bd)
 |r (k:Nat) (t:Ty) (b:Bd)
 |g (slot K:Nat) (t:Ty) (b:Bd) (nb:Nat)
def Hav.ty:Hav->Ty
 | .ex X=>X.t
 | .s _ t _=>t
 | .a _ t _=> .sl t
 | .bk _ t _=> .sl t
 | .r _ t _=>t
 | .g _ _ t _ _=> .sl t
def Hav.bnd:(h:Hav)->h.ty.den->Prop
 | .ex X,y=>X.bnd y
 | .s _ t b,x=>Bnd t b x
 | .a _ t b,l=> ∀x∈(show List t.den from l),Bnd t b x
 | .bk _ t b,l=> ∀x∈(show List t.den from l),Bnd t b x
 | .r _ t b,x=>Bnd t b x
 | .g _ _ t b nb,l=>List.length (show List t.den from l)<=nb/\ ∀x∈(show List t.den from l),Bnd t b x
@[reducible] def hden(hs:List Hav):Type:=dens (hs.map Hav.ty)
def HB:(hs:List Hav)->hden hs->Prop
 |[],_=>True
 |[h],x=>h.bnd x
 |h::g::r,x=>h.bnd x.1/\HB (g::r) x.2
def havV(st:WSt):(h:Hav)->Option (List Prop×h.ty.den)
 | .ex X=>X.val st
 | .s slot t b=>match look st.rm slot with
  |none=>match qA st slot with
   |some (.c x)=>bif beqB (BO x) t.agg then(match reify t x.cells with
    |some (b',v,[])=>some (bif b'.le b then[]else[Bnd t b v],v)
    |_=>none)else none
   |_=>none
  |some _=>none
 | .a k t b=>match look st.rL k with
  |none=>match look st.L k with
   |some (.arr t' b' l)=>if h:(Ty.sl t').beq (.sl t)=true then some (bif b'.le b then[]else[∀x∈vi (t:= .sl t') (t':= .sl t) h l,Bnd t b x],vi (t:= .sl t') (t':= .sl t) h l)else none
   |_=>none
  |some _=>none
 | .bk k t b=>match look st.rL k with
  |none=>match look st.L k with
   |some (.gro t' b' l)=>if h:(Ty.sl t').beq (.sl t)=true then some (bif b'.le b then[]else[∀x∈vi (t:= .sl t') (t':= .sl t) h l,Bnd t b x],vi (t:= .sl t') (t':= .sl t) h l)else none
   |_=>none
  |some _=>none
 | .r k t b=>match look st.rL k with
  |none=>match look st.L k with
   |some (.rig l)=>match reify t l with
    |some (b',v,[])=>some (bif b'.le b then[]else[Bnd t b v],v)
    |_=>none
   |_=>none
  |some _=>none
 | .g slot K t b nb=>match look st.rm slot,look st.rL K with
  |none,none=>match qA st slot,look st.L K with
   |some (.c (.one (.gs k n w nb'))),some (.gro t' b' l)=>if h:(Ty.sl t').beq (.sl t)=true then
     (bif Nat.beq k K&&Nat.beq w t.w then some ((n=l.length)::((bif Nat.ble nb' nb then[]else[n<=nb])++(bif b'.le b then[]else[∀x∈vi (t:= .sl t') (t':= .sl t) h l,Bnd t b x])),vi (t:= .sl t') (t':= .sl t) h l)else none)else none
   |_,_=>none
  |_,_=>none
def Ey(st:WSt):(hs:List Hav)->Option (List Prop×hden hs)
 |[]=>some ([],())
 |[h]=>havV st h
 |h::g::r=>match havV st h with
  |some (v,x)=>match Ey st (g::r)with
   |some (v',y)=>some (v++v',(x,y))
   |none=>none
  |none=>none
def hslot:Hav->List Nat
 | .ex X=>X.ss
 | .s slot _ _=>[slot]
 | .g slot _ _ _ _=>[slot]
 |_=>[]
def hblk:Hav->List Nat
 | .ex X=>X.bs
 | .a k _ _=>[k]
 | .bk k _ _=>[k]
 | .r k _ _=>[k]
 | .g _ K _ _ _=>[K]
 |_=>[]
def wR:(h:Hav)->h.ty.den->List (Nat×WV)
 | .ex X,y=>X.m y
 | .s slot t b,x=>[(slot,.c (mkC t b x))]
 | .g slot K t b nb,l=>[(slot,.c (.one (.gs K (List.length (show List t.den from l)) t.w nb)))]
 |_,_=>[]
def wh:(h:Hav)->h.ty.den->List (Nat×WB)
 | .ex X,y=>X.L y
 | .a k t b,l=>[(k,.arr t b l)]
 | .bk k t b,l=>[(k,.gro t b l)]
 | .r k t b,x=>[(k,.rig [.dt t b x])]
 | .g slot K t b nb,l=>[(K,.gro t b l)]
 |_,_=>[]
def C5:(hs:List Hav)->hden hs->List (Nat×WV)
 |[],_=>[]
 |[h],x=>wR h x
 |h::g::r,x=>wR h x.1++C5 (g::r) x.2
def C4:(hs:List Hav)->hden hs->List (Nat×WB)
 |[],_=>[]
 |[h],x=>wh h x
 |h::g::r,x=>wh h x.1++C4 (g::r) x.2
def wk(hs:List Hav):List Nat:=hs.flatMap hslot
def wP(hs:List Hav):List Nat:=hs.flatMap hblk
theorem K0{st:WSt}(hk:st.Ok){h:Hav}{vc:List Prop}{x:h.ty.den}(e:havV st h=some (vc,x))(hvc: ∀p∈vc,p):
  h.bnd x/\(∀p∈wR h x,look st.rm p.1=none/\p.1∈hslot h/\p.2.ok/\ ∃v,qA st p.1=some v/\ ∀β H u,v.exp.sat β H u->p.2.exp.sat β H u)/\
  (∀p∈wh h x,look st.rL p.1=none/\p.1∈hblk h/\p.2.ok/\ ∃b,qm st p.1=some b/\BImp p.1 b.exp p.2.exp):=by
 cases h with
 |ex X=>
  obtain⟨h1,h2,h3⟩:=X.hval hk e hvc;exact⟨h1,λp hp=>⟨(h2 p hp).1,(X.hm h1 p hp).1,(X.hm h1 p hp).2,(h2 p hp).2⟩,λp hp=>⟨(h3 p hp).1,(X.hL h1 p hp).1,(X.hL h1 p hp).2,(h3 p hp).2⟩⟩
 |s slot t b=>
  change t.den at x;simp only[havV]at e;split at e
  .rename_i hrm
   split at e
   .rename_i y hy
    cases hb:beqB (BO y) t.agg with
    |false=>rw[hb]at e;cases e
    |true=>
     rw[hb]at e;simp only[cond_true]at e
     split at e
     .rename_i b' v hr
      simp only[q6E,q6F]at e;obtain⟨rfl,rfl⟩:=e
      have ha:CW t (.c y)=some (b',x):=by unfold CW;simp only[hb,cond_true,hr]
      obtain⟨i1,i2⟩:=Ed ha (hk.m slot _ hy)
      have hbn:Bnd t b x:=by
       cases hle:b'.le b with
       |true=>exact Bnd.mono hle i2
       |false=>rw[hle]at hvc;exact hvc _ q5Q
      refine⟨hbn,λp hp=>?_,λp hp=>by simp[wh]at hp⟩;simp only[wR,q5U]at hp;subst hp
      exact⟨hrm,q5Q,Id hbn,_,hy,by rw[show(slot,WV.c (mkC t b x)).2.exp=argC t x from Jg t b x];exact i1⟩
     .cases e
   .cases e
  .cases e
 |a k t b=>
  simp only[havV]at e;split at e
  .rename_i hrL
   split at e
   .rename_i t' b' l hl
    split at e
    .rename_i hb
     have:=Ty.beq_eq hb;cases this;simp only[q6E,q6F]at e;obtain⟨rfl,rfl⟩:=e
     have hl2:qm st k=some (.arr t b' l):=by unfold qm;rw[hl]
     have hbn: ∀x∈l,Bnd t b x:=by
      cases hle:b'.le b with
      |true=>exact λx hx=>Bnd.mono hle ((hk.l k _ hl2) x hx)
      |false=>rw[hle]at hvc;exact hvc (∀x∈l,Bnd t b x) q5Q
     refine⟨hbn,λp hp=>by simp[wR]at hp,λp hp=>?_⟩;simp only[wh,q5U]at hp;subst hp
     exact⟨hrL,q5Q,hbn,_,hl2,λ_ _ _ h=>h⟩
    .cases e
   .cases e
  .cases e
 |bk k t b=>
  simp only[havV]at e;split at e
  .rename_i hrL
   split at e
   .rename_i t' b' l hl
    split at e
    .rename_i hb
     have:=Ty.beq_eq hb;cases this;simp only[q6E,q6F]at e;obtain⟨rfl,rfl⟩:=e
     have hl2:qm st k=some (.gro t b' l):=by unfold qm;rw[hl]
     have hbn: ∀x∈l,Bnd t b x:=by
      cases hle:b'.le b with
      |true=>exact λx hx=>Bnd.mono hle ((hk.l k _ hl2) x hx)
      |false=>rw[hle]at hvc;exact hvc (∀x∈l,Bnd t b x) q5Q
     refine⟨hbn,λp hp=>by simp[wR]at hp,λp hp=>?_⟩;simp only[wh,q5U]at hp;subst hp
     exact⟨hrL,q5Q,hbn,_,hl2,λ_ _ _ h=>h⟩
    .cases e
   .cases e
  .cases e
 |r k t b=>
  change t.den at x;simp only[havV]at e;split at e
  .rename_i hrL
   split at e
   .rename_i l hl
    split at e
    .rename_i b' v hr
     simp only[q6E,q6F]at e;obtain⟨rfl,rfl⟩:=e
     have hl2:qm st k=some (.rig l):=by unfold qm;rw[hl]
     obtain⟨m,e1,i1,o1⟩:=vv hr;have e1:WAs.exp l=m:=by rw[e1];simp[WAs.exp]
     subst e1
     have hbn:Bnd t b x:=by
      cases hle:b'.le b with
      |true=>exact Bnd.mono hle (o1 (hk.l k _ hl2)).1
      |false=>rw[hle]at hvc;exact hvc _ q5Q
     refine⟨hbn,λp hp=>by simp[wR]at hp,λp hp=>?_⟩;simp only[wh,q5U]at hp;subst hp
     refine⟨hrL,q5Q,v9 hbn,_,hl2,?_⟩;show BImp k (.rigid _) (.rigid (WAs.exp [.dt t b x]));rw[zi];exact zM i1
    .cases e
   .cases e
  .cases e
 |g slot K t b nb=>
  simp only[havV]at e;split at e
  .rename_i hrm hrL
   split at e
   .rename_i k n w nb' t' b' l hs hl
    split at e
    .rename_i hb
     have:=Ty.beq_eq hb;cases this
     cases hc:Nat.beq k K&&Nat.beq w t.w with
     |false=>rw[hc]at e;cases e
     |true=>
      rw[hc]at e;simp only[cond_true,q6E,q6F]at e;obtain⟨rfl,rfl⟩:=e
      simp only[q5m]at hc;have h1:=q68 hc.1;have h2:=q68 hc.2;subst h1 h2;have hl2:qm st k=some (.gro t b' l):=by unfold qm;rw[hl]
      have hn:n=l.length:=hvc _ q5Q;obtain⟨p1,p2⟩:=AllP.app (λp hp=>hvc p (q5P _ hp));have hok:n<=nb':=(hk.m slot _ hs).1
      have hnb:l.length<=nb:=by
       rw[<-hn]
       cases hle:Nat.ble nb' nb with
       |true=>have:=q6a hle;omega
       |false=>rw[hle]at p1;exact p1 (n<=nb) q5Q
      have hbn: ∀x∈l,Bnd t b x:=by
       cases hle:b'.le b with
       |true=>exact λx hx=>Bnd.mono hle ((hk.l k _ hl2) x hx)
       |false=>rw[hle]at p2;exact p2 (∀x∈l,Bnd t b x) q5Q
      refine⟨⟨hnb,hbn⟩,λp hp=>?_,λp hp=>?_⟩
      .simp only[wR,q5U]at hp;subst hp
       refine⟨hrm,q5Q,⟨hnb,rfl⟩,_,hs,?_⟩;show∀β H u,(AV.c (.one (.gs k n))).sat β H u->(AV.c (.one (.gs k l.length))).sat β H u;rw[hn];exact λ_ _ _ h=>h
      .simp only[wh,q5U]at hp;subst hp
       exact⟨hrL,q5Q,hbn,_,hl2,λ_ _ _ h=>h⟩
    .cases e
   .cases e
  .cases e
theorem HW{st:WSt}(hk:st.Ok): ∀{hs:List Hav}{vc:List Prop}{x:hden hs},Ey st hs=some (vc,x)->(∀p∈vc,p)->
  HB hs x/\(∀p∈C5 hs x,look st.rm p.1=none/\p.1∈wk hs/\p.2.ok/\ ∃v,qA st p.1=some v/\ ∀β H u,v.exp.sat β H u->p.2.exp.sat β H u)/\
  (∀p∈C4 hs x,look st.rL p.1=none/\p.1∈wP hs/\p.2.ok/\ ∃b,qm st p.1=some b/\BImp p.1 b.exp p.2.exp)
 |[],vc,x,e,hvc=>⟨trivial,λp hp=>by simp[C5]at hp,λp hp=>by simp[C4]at hp⟩
 |[h],vc,x,e,hvc=>by
  obtain⟨h1,h2,h3⟩:=K0 hk (h:=h) e hvc;refine⟨h1,λp hp=>?_,λp hp=>?_⟩
  .obtain⟨a,b,c⟩:=h2 p hp;exact⟨a,q6O.2 ⟨h,by simp,b⟩,c⟩
  .obtain⟨a,b,c⟩:=h3 p hp;exact⟨a,q6O.2 ⟨h,by simp,b⟩,c⟩
 |h::g::r,vc,x,e,hvc=>by
  simp only[Ey]at e
  cases h1:havV st h with
  |none=>rw[h1]at e;cases e
  |some q=>
   obtain⟨v,y⟩:=q;rw[h1]at e;simp only at e
   cases h2:Ey st (g::r)with
   |none=>rw[h2]at e;cases e
   |some q=>
    obtain⟨v',z⟩:=q;rw[h2]at e;simp only[q6E,q6F]at e;obtain⟨rfl,rfl⟩:=e
    obtain⟨p1,p2⟩:=AllP.app hvc;obtain⟨a1,a2,a3⟩:=K0 hk h1 p1;obtain⟨b1,b2,b3⟩:=HW hk h2 p2;refine⟨⟨a1,b1⟩,λp hp=>?_,λp hp=>?_⟩
    .rcases q5N.1 hp with hp|hp
     .obtain⟨a,b,c⟩:=a2 p hp;exact⟨a,q6O.2 ⟨h,by simp,b⟩,c⟩
     .obtain⟨a,b,c⟩:=b2 p hp
      obtain⟨z,hz,hz2⟩:=q6O.1 b;exact⟨a,q6O.2 ⟨z,q5P _ hz,hz2⟩,c⟩
    .rcases q5N.1 hp with hp|hp
     .obtain⟨a,b,c⟩:=a3 p hp;exact⟨a,q6O.2 ⟨h,by simp,b⟩,c⟩
     .obtain⟨a,b,c⟩:=b3 p hp
      obtain⟨z,hz,hz2⟩:=q6O.1 b;exact⟨a,q6O.2 ⟨z,q5P _ hz,hz2⟩,c⟩
def B6:List Hav->WSt->Option WSt
 |[],st=>some st
 | .ex X::r,st=>match X.ren st with
  |some st'=>B6 r st'
  |none=>none
 | .g slot K t b _::r,st=>match renG slot K t b st with
  |some st'=>B6 r st'
  |none=>none
 |_::r,st=>B6 r st
theorem zR{n:Nat}{Ks:List Nat}: ∀{hs:List Hav}{st st':WSt},st.Ok->B6 hs st=some st'->EntW n Ks st st'/\st'.Ok/\st'.rm=st.rm/\st'.rL=st.rL
 |[],st,st',hk,h=>by simp[B6]at h;subst h;exact⟨Ent.refl,hk,rfl,rfl⟩
 | .ex X::r,st,st',hk,h=>by
  simp only[B6]at h
  cases h1:X.ren st with
  |none=>rw[h1]at h;cases h
  |some s=>
   rw[h1]at h;simp only at h
   obtain⟨a1,a2,a3,a4⟩:=X.hren (n:=n) (Ks:=Ks) hk h1;obtain⟨b1,b2,b3,b4⟩:=zR (n:=n) (Ks:=Ks) a2 h;exact⟨Ent.trans a1 b1,b2,b3.trans a3,b4.trans a4⟩
 | .g slot K t b nb::r,st,st',hk,h=>by
  simp only[B6]at h
  cases h1:renG slot K t b st with
  |none=>rw[h1]at h;cases h
  |some s=>
   rw[h1]at h;simp only at h
   obtain⟨a1,a2,a3,a4⟩:=Fl (n:=n) (Ks:=Ks) hk h1;obtain⟨b1,b2,b3,b4⟩:=zR (n:=n) (Ks:=Ks) a2 h;exact⟨Ent.trans a1 b1,b2,b3.trans a3,b4.trans a4⟩
 | .s _ _ _::r,st,st',hk,h=>zR (hs:=r) hk h
 | .a _ _ _::r,st,st',hk,h=>zR (hs:=r) hk h
 | .bk _ _ _::r,st,st',hk,h=>zR (hs:=r) hk h
 | .r _ _ _::r,st,st',hk,h=>zR (hs:=r) hk h
def head(hs:List Hav)(x:hden hs)(rm:List (Nat×WV))(rL:List (Nat×WB)):WSt:=⟨rm,C5 hs x,rL,C4 hs x⟩
def Un(hs:List Hav):List Nat:=hs.flatMap λh=>match h with| .ex X=>X.gb| .g _ K _ _ _=>[K]|_=>[]
def KM(W:List Nat)(hs:List Hav)(p:Nat×WV):Bool:=!v8 p.1 W&&!v8 p.1 (wk hs)&&disj p.2.ids W&&disj p.2.ids (Un hs)
def KL(W:List Nat)(hs:List Hav)(p:Nat×WB):Bool:=!v8 p.1 W&&!v8 p.1 (wP hs)&&disj p.2.ids W&&disj p.2.ids (Un hs)
theorem K1{n:Nat}{Ks:List Nat}{st:WSt}(hk:st.Ok){hs:List Hav}{vc:List Prop}{x:hden hs}(e:Ey st hs=some (vc,x))(hvc: ∀p∈vc,p)
  {rm:List (Nat×WV)}{rL:List (Nat×WB)}(hrm: ∀t v,look rm t=some v->qA st t=some v)(hrL: ∀k b,look rL k=some b->qm st k=some b)
  (d1: ∀t∈wk hs,look rm t=none)(d2: ∀k∈wP hs,look rL k=none):EntW n Ks st (head hs x rm rL)/\HB hs x:=by
 obtain⟨h1,h2,h3⟩:=HW hk e hvc;refine⟨En (λt v' h=>?_) (λk b' h=>?_),h1⟩
 .unfold qA head at h
  simp only at h
  cases hl:look (C5 hs x) t with
  |some y=>
   rw[hl]at h;simp at h;subst h
   exact(h2 _ (qR hl)).2.2.2
  |none=>rw[hl]at h;exact⟨v',hrm t v' h,λ_ _ _ h=>h⟩
 .unfold qm head at h
  simp only at h
  cases hl:look (C4 hs x) k with
  |some y=>
   rw[hl]at h;simp at h;subst h
   exact(h3 _ (qR hl)).2.2.2
  |none=>rw[hl]at h;exact⟨b',hrL k b' h,λ_ _ _ h=>h⟩
theorem D6{h:Hav}{x:h.ty.den}(hb:h.bnd x): ∀p∈wR h x,p.1∈hslot h/\p.2.ok:=by
 intro p hp
 cases h with
 |ex X=>exact X.hm hb p hp
 |s slot t b=>simp only[wR,q5U]at hp;subst hp;exact⟨q5Q,Id hb⟩
 |g slot K t b nb=>simp only[wR,q5U]at hp;subst hp;exact⟨q5Q,hb.1,rfl⟩
 |_=>simp[wR]at hp
theorem D5{h:Hav}{x:h.ty.den}(hb:h.bnd x): ∀p∈wh h x,p.1∈hblk h/\p.2.ok:=by
 intro p hp
 cases h with
 |ex X=>exact X.hL hb p hp
 |a k t b=>simp only[wh,q5U]at hp;subst hp;exact⟨q5Q,hb⟩
 |bk k t b=>simp only[wh,q5U]at hp;subst hp;exact⟨q5Q,hb⟩
 |r k t b=>simp only[wh,q5U]at hp;subst hp;exact⟨q5Q,v9 hb⟩
 |g slot K t b nb=>simp only[wh,q5U]at hp;subst hp;exact⟨q5Q,hb.2⟩
 |_=>simp[wh]at hp
theorem LT: ∀{hs:List Hav}{x:hden hs},HB hs x->(∀p∈C5 hs x,p.1∈wk hs/\p.2.ok)/\(∀p∈C4 hs x,p.1∈wP hs/\p.2.ok)
 |[],x,h=>⟨λp hp=>by simp[C5]at hp,λp hp=>by simp[C4]at hp⟩
 |[h],x,hb=>⟨λp hp=>⟨q6O.2 ⟨h,by simp,(D6 hb p hp).1⟩,(D6 hb p hp).2⟩,λp hp=>⟨q6O.2 ⟨h,by simp,(D5 hb p hp).1⟩,(D5 hb p hp).2⟩⟩
 |h::g::r,x,hb=>by
  obtain⟨i1,i2⟩:=LT (hs:=g::r) hb.2;refine⟨λp hp=>?_,λp hp=>?_⟩
  .rcases q5N.1 hp with hp|hp
   .exact⟨q6O.2 ⟨h,by simp,(D6 hb.1 p hp).1⟩,(D6 hb.1 p hp).2⟩
   .obtain⟨a,b⟩:=i1 p hp
    obtain⟨z,hz,hz2⟩:=q6O.1 a;exact⟨q6O.2 ⟨z,q5P _ hz,hz2⟩,b⟩
  .rcases q5N.1 hp with hp|hp
   .exact⟨q6O.2 ⟨h,by simp,(D5 hb.1 p hp).1⟩,(D5 hb.1 p hp).2⟩
   .obtain⟨a,b⟩:=i2 p hp
    obtain⟨z,hz,hz2⟩:=q6O.1 a;exact⟨q6O.2 ⟨z,q5P _ hz,hz2⟩,b⟩
theorem WX{hs:List Hav}{x:hden hs}(hb:HB hs x){rm:List (Nat×WV)}{rL:List (Nat×WB)}(o1: ∀t v,look rm t=some v->v.ok)(o2: ∀k b,look rL k=some b->b.ok)
  (d1: ∀t∈wk hs,look rm t=none)(d2: ∀k∈wP hs,look rL k=none):(head hs x rm rL).Ok:=by
 obtain⟨i1,i2⟩:=LT hb;refine⟨λt v h=>?_,λk b h=>?_,λt ht=>?_,λk hk=>?_⟩
 .unfold qA head at h
  simp only at h
  cases hl:look (C5 hs x) t with
  |some y=>rw[hl]at h;simp at h;subst h;exact(i1 _ (qR hl)).2
  |none=>rw[hl]at h;exact o1 t v h
 .unfold qm head at h
  simp only at h
  cases hl:look (C4 hs x) k with
  |some y=>rw[hl]at h;simp at h;subst h;exact(i2 _ (qR hl)).2
  |none=>rw[hl]at h;exact o2 k b h
 .show look (C5 hs x) t=none
  exact jX.2 λp hp e=>ht (e▸d1 _ (i1 p hp).1)
 .show look (C4 hs x) k=none
  exact jX.2 λp hp e=>hk (e▸d2 _ (i2 p hp).1)
def cand:List Prop->Prop->Prop
 |[],Q=>Q
 |p::l,Q=>p/\cand l Q
theorem AH: ∀{l:List Prop}{Q:Prop},cand l Q->(∀p∈l,p)/\Q
 |[],Q,h=>⟨λp hp=>by simp at hp,h⟩
 |q::l,Q,h=>by
  obtain⟨h1,h2⟩:=AH (l:=l) h.2;refine⟨λp hp=>?_,h2⟩;rcases q5O.1 hp with rfl|hp
  .exact h.1
  .exact h1 p hp
def call:List Prop->Prop
 |[]=>True
 |[p]=>p
 |p::q::l=>p/\call (q::l)
theorem GO: ∀{l:List Prop},call l-> ∀p∈l,p
 |[],_,p,hp=>by simp at hp
 |[q],h,p,hp=>by rw[q5U.1 hp];exact h
 |q::r::l,h,p,hp=>by
  rcases q5O.1 hp with rfl|hp
  .exact h.1
  .exact GO h.2 p hp
def allD:(ts:List Ty)->(dens ts->Prop)->Prop
 |[],Q=>Q ()
 |[t],Q=> ∀x:t.den,Q x
 |t::u::r,Q=> ∀x:t.den,allD (u::r) λy=>Q (x,y)
theorem L5: ∀{ts:List Ty}{Q:dens ts->Prop},allD ts Q-> ∀x,Q x
 |[],Q,h,()=>h
 |[t],Q,h,x=>h x
 |t::u::r,Q,h,x=>L5 (ts:=u::r) (h x.1) x.2
inductive Ann (P:Program) where
 |nil
 |h (r i:Nat) (H:Hint P) (k:Ann P)
 |pre (r:Nat) (A:PreOp) (k:Ann P)
 |cond (a b:Ann P)
 |dead
 |loop (hs:List Hav) (C:hden hs->Prop) (μ:hden hs->Nat) (body:hden hs->Ann P)
structure Cx (P:Program) where
 G:List (Nat×Hint P)
 n:Nat
 Ks:List Nat
abbrev Kont(P:Program):=Ann P->Exit->WSt->Prop
section
variable {P:Program}
def annL:Ann P->Ann P
 | .cond a _=>a
 |a=>a
def annR:Ann P->Ann P
 | .cond _ b=>b
 |a=>a
def dd:Ann P->Prop->Prop
 | .dead,_=>False
 |_,Q=>Q
theorem wZ{a:Ann P}{Q:Prop}(h:dd a Q):Q:=by
 cases a<;>first|exact h|exact h.elim
def Gs(r i:Nat):Ann P->Hint P×Ann P
 | .h r' i' H k=>bif Nat.beq r r'&&Nat.beq i i' then(H,k)else(.no,.h r' i' H k)
 |a=>(.no,a)
def wrun(cx:Cx P)(all:List Oper)(id:Nat):Nat->List Oper->Ann P->WSt->List PI->(Ann P->WSt->List PI->Prop)->Prop
 |_,[],ann,st,ps,k=>k ann st ps
 |i,o::r,ann,st,ps,k=>
  match Gs id i ann with
  |(H,ann')=>match wstep cx.G cx.n all i o H st with
   | .bad=>False
   | .one vc p st'=>cand vc (wrun cx all id (i+1) r ann' st' (ps++[p]) k)
   | .two q p1 s1 p2 s2=>(q->dd (annL ann') (wrun cx all id (i+1) r (annL ann') s1 (ps++[p1]) k))/\(¬q->dd (annR ann') (wrun cx all id (i+1) r (annR ann') s2 (ps++[p2]) k))
def wpre(cx:Cx P)(id:Nat):Ann P->WSt->(Ann P->WSt->Prop)->Prop
 | .pre r A k,st,Q=>bif Nat.beq r id then(match GL cx.Ks A st with
   |some (vc,st')=>cand vc (wpre cx id k st' Q)
   |none=>False)else Q (.pre r A k) st
 |a,st,Q=>Q a st
def LL(all:List Oper)(st0:WSt)(ps:List PI)(draw:Bool):Bool:=
 !draw||(okM all (masks 0 all [])&&okPl all.length (λi=>ps.getD i default) (masks 0 all [])&&ps.all λp=>p.nw.all (F6 st0 p.W))
def wtext(cx:Cx P)(all:List Oper)(id:Nat):Nat->List Oper->Ann P->WSt->(Ann P->WSt->Prop)->Prop
 |_,[],ann,st,k=>k ann st
 |i,o::r,ann,st,k=>wpre cx (1000000+1000*id+i) ann st λann st=>
  match Gs id i ann with
  |(H,ann')=>match wstep cx.G cx.n all i o H st with
   | .bad=>False
   | .one vc p st'=>cand vc (wtext cx all id (i+1) r ann' st' k)
   | .two q p1 s1 p2 s2=>(q->dd (annL ann') (wtext cx all id (i+1) r (annL ann') s1 k))/\(¬q->dd (annR ann') (wtext cx all id (i+1) r (annR ann') s2 k))
def wregion(cx:Cx P)(id:Nat)(ops:Array Oper)(draw:Bool)(ann:Ann P)(st:WSt)(Φ:Kont P):Prop:=
 wpre cx id ann st λann st=>match draw with
  |false=>wtext cx ops.toList id 0 ops.toList ann st λann' st'=>Φ ann' .normal st'
  |true=>wrun cx ops.toList id 0 ops.toList ann st [] λann' st' ps=>bif LL ops.toList st ps true then cand (altV (masks 0 ops.toList []) 0 ps) (Φ ann' .normal st')else False
def wrs:Code->List Nat
 | .region _ ops _=>ops.toList.filterMap (·.dst)
 | .seq a b=>wrs a++wrs b
 | .cond _ a b=>wrs a++wrs b
 | .block _ c=>wrs c
 | .loop c=>wrs c
 |_=>[]
def rnds(f:Ann P->WSt->Kont P->Prop):Nat->Ann P->WSt->Kont P->Prop
 |0,_,_,_=>False
 |k+1,ann,st,Φ=>f ann st λann' e st'=>match e with
  | .normal=>rnds f k ann' st' Φ
  |e=>Φ ann' e st'
def leave(km:List (Nat×WV))(kl:List (Nat×WB))(rm:List (Nat×WV))(rL:List (Nat×WB))(st:WSt):WSt:=⟨rm,st.m++km,rL,st.L++kl⟩
def wloop(cx:Cx P)(W:List Nat)(f:Ann P->WSt->Kont P->Prop)(hs:List Hav)(C:hden hs->Prop)(μ:hden hs->Nat)(body:hden hs->Ann P)(st:WSt)(Φ:Kont P):Prop:=
 match B6 hs st with
 |none=>False
 |some st1=>bif jY st1.m&&jY st1.L&&(wk hs).all (λt=>(look st1.rm t).isNone)&&(wP hs).all (λk=>(look st1.rL k).isNone)then
  (match Ey st1 hs with
  |none=>False
  |some (vc,x0)=>cand vc (C x0/\allD (hs.map Hav.ty) λx=>HB hs x->C x->
    f (body x) (head hs x (st1.m.filter (KM W hs)++st1.rm) (st1.L.filter (KL W hs)++st1.rL)) λann' e st'=>match e with
     | .normal=>match B6 hs st' with
      |none=>False
      |some st2=>match Ey st2 hs with
       |none=>False
       |some (vc',x1)=>cand vc' (C x1/\μ x1<μ x)
     |e=>Φ ann' e (leave (st1.m.filter (KM W hs)) (st1.L.filter (KL W hs)) st1.rm st1.rL st')))else False
def wp(cx:Cx P):Code->Ann P->WSt->Kont P->Prop
 | .skip,ann,st,Φ=>Φ ann .normal st
 | .region id ops draw,ann,st,Φ=>wregion cx id ops draw ann st Φ
 | .seq a b,ann,st,Φ=>wp cx a ann st λann' e st'=>match e with
  | .normal=>wp cx b ann' st' Φ
  |e=>Φ ann' e st'
 | .cond c x y,ann,st,Φ=>match D3 st c with
  |some (.c (.one (.vl (.bool b))))=>(match b with|true=>wp cx x ann st Φ|false=>wp cx y ann st Φ)
  |some (.c (.one (.pp q _)))=>(q->dd (annL ann) (wp cx x (annL ann) st Φ))/\(¬q->dd (annR ann) (wp cx y (annR ann) st Φ))
  |some (.c (.one (.dt .bool _ b)))=>(b=true->dd (annL ann) (wp cx x (annL ann) st Φ))/\(¬b=true->dd (annR ann) (wp cx y (annR ann) st Φ))
  |some (.c (.one (.bq C)))=>(C->dd (annL ann) (wp cx x (annL ann) st Φ))/\dd (annR ann) (wp cx y (annR ann) st Φ)
  |_=>False
 | .block id c,ann,st,Φ=>wp cx c ann st λann' e st'=>match e with
  | .exit id'=>bif Nat.beq id' id then Φ ann' .normal st' else Φ ann' (.exit id') st'
  |e=>Φ ann' e st'
 | .loop c,ann,st,Φ=>match ann with
  | .loop hs C μ body=>wloop cx (wrs c) (wp cx c) hs C μ body st Φ
  |ann=>rnds (wp cx c) 1000 ann st Φ
 | .exit id,ann,st,Φ=>Φ ann (.exit id) st
 | .ret,ann,st,Φ=>Φ ann .ret st
 | .label _,ann,st,Φ=>Φ ann .normal st
 |_,_,_,_=>False
def Post(cx:Cx P)(st:WSt)(Φ:Kont P)(E:Env):Exit->Act->World->Prop:=λe a w=>
 ∃ann st' H β,Φ ann e st'/\st'.Ok/\st'.rm=st.rm/\st'.rL=st.rL/\RepF E (j9 st'.toA) a w H β
def noDf:Code->Bool
 | .region _ ops _=>ops.toList.all ndO
 | .seq x y=>noDf x&&noDf y
 | .cond _ x y=>noDf x&&noDf y
 | .block _ c=>noDf c
 | .loop c=>noDf c
 |_=>true
abbrev Dfc(ro:Option Nat)(c:Code):Prop:=ro=none\/noDf c=true
def Snd(cx:Cx P)(c:Code)(f:Ann P->WSt->Kont P->Prop):Prop:=
 ∀ro n,Dfc ro c-> ∀ann st Φ,f ann st Φ->st.Ok-> ∀E:Env,E.n=cx.n->E.Ks=cx.Ks-> ∀a w H β,RepF E (j9 st.toA) a w H β->c.wpIn (Fw ro) n P (Post cx st Φ E) a w
theorem zB{cx:Cx P}{id:Nat}: ∀{ann:Ann P}{st:WSt}{Q:Ann P->WSt->Prop},wpre cx id ann st Q->st.Ok-> ∃ann' st',Q ann' st'/\st'.Ok/\EntW cx.n cx.Ks st st'/\st'.rm=st.rm/\st'.rL=st.rL:=by
 intro ann
 induction ann with
 |pre r A k ih=>
  intro st Q h hk;simp only[wpre]at h
  cases hb:Nat.beq r id with
  |false=>rw[hb]at h;exact⟨_,_,h,hk,Ent.refl,rfl,rfl⟩
  |true=>
   rw[hb]at h;simp only[cond_true]at h
   split at h
   .rename_i vc st' ha
    obtain⟨h1,h2⟩:=AH h;obtain⟨a1,a2,a3,a4⟩:=Kk (n:=cx.n) hk ha h1;obtain⟨ann',st'',q1,q2,q3,q4,q5⟩:=ih h2 a2;exact⟨ann',st'',q1,q2,Ent.trans a1 q3,q4.trans a3,q5.trans a4⟩
   .exact h.elim
 |nil=>exact λh hk=>⟨_,_,h,hk,Ent.refl,rfl,rfl⟩
 |h r i H k ih=>exact λh hk=>⟨_,_,h,hk,Ent.refl,rfl,rfl⟩
 |cond a b iha ihb=>exact λh hk=>⟨_,_,h,hk,Ent.refl,rfl,rfl⟩
 |dead=>exact λh hk=>⟨_,_,h,hk,Ent.refl,rfl,rfl⟩
 |loop hs C μ body ih=>exact λh hk=>⟨_,_,h,hk,Ent.refl,rfl,rfl⟩
theorem Du{cx:Cx P}{all:List Oper}{id:Nat}{ops:Array Oper}(hall:ops.toList=all){E:Env}(hn:E.n=cx.n){st0:WSt}: ∀(rest:List Oper)(i:Nat)(ann:Ann P)(st:WSt)(ps:List PI)(k:Ann P->WSt->List PI->Prop),
  (∀j,rest[j]?=ops[i+j]?)->wrun cx all id i rest ann st ps k->ps.length=i->Chain P E ops st0 ps st->st.Ok->st.rm=st0.rm->st.rL=st0.rL->
  ∃ann' st' ps',k ann' st' ps'/\ps'.length=i+rest.length/\Chain P E ops st0 ps' st'/\st'.Ok/\st'.rm=st0.rm/\st'.rL=st0.rL
 |[],i,ann,st,ps,k,_,h,hl,hc,hk,e1,e2=>⟨ann,st,ps,h,by simp[hl],hc,hk,e1,e2⟩
 |o::r,i,ann,st,ps,k,hidx,h,hl,hc,hk,e1,e2=>by
  simp only[wrun]at h;have ho:ops[i]?=some o:=by have:=hidx 0;simpa using this.symm
  have hidx': ∀j,r[j]?=ops[i+1+j]?:=λj=>by have:=hidx (j+1);simpa[q62,Nat.add_comm 1 j]using this
  have hs:=MZ (P:=P) (G:=cx.G) (n:=cx.n) hall ho (h:=(Gs id i ann).1) hk hn;have hlen:i+(o::r).length=i+1+r.length:=by simp;omega
  rw[hlen];generalize Gs id i ann=z at h hs;obtain⟨Hh,ann1⟩:=z;simp only at h hs
  cases hw:wstep cx.G cx.n all i o Hh st with
  |bad=>rw[hw]at h;exact h.elim
  |one vc p st'=>
   rw[hw]at h hs;obtain⟨h1,h2⟩:=AH h;have hs:=hs h1;subst hl;exact Du hall hn r (ps.length+1) _ _ _ k hidx' h2 (by simp) (hc.snoc hs) hs.ok (hs.rm.trans e1) (hs.rL.trans e2)
  |two q p1 s1 p2 s2=>
   rw[hw]at h hs;subst hl;by_cases hq:q
   .have hs:=hs.1 hq
    exact Du hall hn r (ps.length+1) _ _ _ k hidx' (wZ (h.1 hq)) (by simp) (hc.snoc hs) hs.ok (hs.rm.trans e1) (hs.rL.trans e2)
   .have hs:=hs.2 hq
    exact Du hall hn r (ps.length+1) _ _ _ k hidx' (wZ (h.2 hq)) (by simp) (hc.snoc hs) hs.ok (hs.rm.trans e1) (hs.rL.trans e2)
theorem C9{ro:Option Nat}{nn:Nat}{cx:Cx P}{all:List Oper}{id:Nat}{ops:Array Oper}(hall:ops.toList=all)(hdf:Dfo ro ops){E:Env}(hn:E.n=cx.n)(hK:E.Ks=cx.Ks){st0:WSt}{Φ:Kont P}: ∀(rest:List Oper)(i:Nat)(ann:Ann P)(st:WSt),
  (∀j,rest[j]?=ops[i+j]?)->wtext cx all id i rest ann st (λan s=>Φ an .normal s)->st.Ok->st.rm=st0.rm->st.rL=st0.rL-> ∀a w H β,RepF E (j9 st.toA) a w H β->wpOpsIn (Fw ro) nn P ops (Post cx st0 Φ E) (List.range' i rest.length) a w
 |[],i,ann,st,_,h,hk,e1,e2,a,w,H,β,hr=>⟨ann,st,H,β,h,hk,e1,e2,hr⟩
 |o::r,i,ann,st,hidx,h,hk,e1,e2,a,w,H,β,hr=>by
  simp only[wtext]at h;have ho:ops[i]?=some o:=by have:=hidx 0;simpa using this.symm
  have hidx': ∀j,r[j]?=ops[i+1+j]?:=λj=>by have:=hidx (j+1);simpa[q62,Nat.add_comm 1 j]using this
  obtain⟨ann1,st1,h1,hk1,hent,f1,f2⟩:=zB h hk;obtain⟨H1,β1,hr1⟩:=hent E hn hK a w H β hr;have hs:=MZ (P:=P) (G:=cx.G) (n:=cx.n) hall ho (h:=(Gs id i ann1).1) hk1 hn;generalize Gs id i ann1=z at h1 hs;obtain⟨Hh,ann2⟩:=z;simp only at h1 hs;rw[q5H,List.range'_succ,wpOpsIn_cons]
  cases hw:wstep cx.G cx.n all i o Hh st1 with
  |bad=>rw[hw]at h1;exact h1.elim
  |one vc p st'=>
   rw[hw]at h1 hs;obtain⟨h2,h3⟩:=AH h1;have hs:=hs h2;refine CS hdf (hs.good _ (λ_ _=>rfl) hs.nw a w H1 β1 _ _ hr1 λa' w' H' β' hr'=>?_);rw[<-hs.fs]at hr';exact C9 hall hdf hn hK r (i+1) _ _ hidx' h3 hs.ok (hs.rm.trans (f1.trans e1)) (hs.rL.trans (f2.trans e2)) a' w' H' β' hr'
  |two q p1 s1 p2 s2=>
   rw[hw]at h1 hs;by_cases hq:q
   .have hs:=hs.1 hq
    refine CS hdf (hs.good _ (λ_ _=>rfl) hs.nw a w H1 β1 _ _ hr1 λa' w' H' β' hr'=>?_);rw[<-hs.fs]at hr';exact C9 hall hdf hn hK r (i+1) _ _ hidx' (wZ (h1.1 hq)) hs.ok (hs.rm.trans (f1.trans e1)) (hs.rL.trans (f2.trans e2)) a' w' H' β' hr'
   .have hs:=hs.2 hq
    refine CS hdf (hs.good _ (λ_ _=>rfl) hs.nw a w H1 β1 _ _ hr1 λa' w' H' β' hr'=>?_);rw[<-hs.fs]at hr';exact C9 hall hdf hn hK r (i+1) _ _ hidx' (wZ (h1.2 hq)) hs.ok (hs.rm.trans (f1.trans e1)) (hs.rL.trans (f2.trans e2)) a' w' H' β' hr'
theorem Pr(hm:P.follows .mixedOrders=true){cx:Cx P}{id:Nat}{ops:Array Oper}{draw:Bool}:Snd cx (.region id ops draw) (wregion cx id ops draw):=by
 intro ro n hdf ann st Φ h hk E hn hK a w H β hrep;obtain⟨ann1,st1,h1,hk1,hent,e1,e2⟩:=zB h hk;obtain⟨H1,β1,hrep1⟩:=hent E hn hK a w H β hrep
 cases draw with
 |false=>
  refine wpIn_region ?_;have:=C9 (nn:=n) (ops:=ops) (st0:=st) (Φ:=Φ) rfl hdf hn hK ops.toList 0 ann1 st1 (λj=>by simp) h1 hk1 e1 e2 a w H1 β1 hrep1;rw[List.range_eq_range'];simpa using this
 |true=>
  obtain⟨ann2,st2,ps,h2,hlen,hc,hk2,e3,e4⟩:=Du (ops:=ops) rfl hn (st0:=st1) ops.toList 0 ann1 st1 [] _ (λj=>by simp) h1 rfl Chain.nil hk1 rfl rfl
  cases hd:LL ops.toList st1 ps true with
  |false=>rw[hd]at h2;exact h2.elim
  |true=>
   rw[hd]at h2;simp only[cond_true]at h2
   obtain⟨hav,h2⟩:=AH h2;refine Mq hdf hm hc (by simpa using hlen) ?_ ?_ hrep1
   .intro hdr
    unfold LL at hd;simp only[Bool.not_true,Bool.false_or,q5m,q6N]at hd;exact⟨hd.1.1,hd.1.2,hd.2,hav⟩
   .intro a' w' H' β' hr
    exact⟨ann2,st2,H',β',h2,hk2,e3.trans e1,e4.trans e2,hr⟩
theorem TC{cx:Cx P}{c:Code}{f:Ann P->WSt->Kont P->Prop}(hf:Snd cx c f): ∀k:Nat,Snd cx (.loop c) (rnds f k):=by
 intro k ro n hdf ann st Φ h hk E hn hK a w H β hrep;refine wpIn_loop_rounds k ?_
 have key: ∀(k:Nat)(ann:Ann P)(st0 st:WSt)(a:Act)(w:World)(H:Heap)(β:Bm),rnds f k ann st Φ->st.Ok->st.rm=st0.rm->st.rL=st0.rL->RepF E (j9 st.toA) a w H β->Code.roundsIn (Fw ro) n P c (Post cx st0 Φ E) k a w:=by
  intro k
  induction k with
  |zero=>intro ann st0 st a w H β h;exact h.elim
  |succ k ih=>
   intro ann st0 st a w H β h hk e1 e2 hrep;rw[roundsIn_succ];refine wpIn_mono (hf ro n hdf ann st _ h hk E hn hK a w H β hrep) ?_
   rintro e a' w' ⟨ann',st',H',β',hΦ,hk',r1,r2,hr⟩
   cases e with
   |normal=>exact ih ann' st0 st' a' w' H' β' hΦ hk' (r1.trans e1) (r2.trans e2) hr
   |_=>exact⟨ann',st',H',β',hΦ,hk',r1.trans e1,r2.trans e2,hr⟩
 exact key k ann st st a w H β h hk rfl rfl hrep
theorem EA{α:Type}{a b:List (Nat×α)}{t:Nat}{v:α}(h:look (a++b) t=some v):look a t=some v\/(look a t=none/\look b t=some v):=by
 rw[vM]at h
 cases hl:look a t with
 |some x=>rw[hl]at h;exact .inl h
 |none=>rw[hl]at h;exact .inr ⟨rfl,h⟩
theorem Sh{ro:Option Nat}{n:Nat}{cx:Cx P}{c:Code}(hdf:Dfc ro c){W:List Nat}{f:Ann P->WSt->Kont P->Prop}(hf:Snd cx c f){hs:List Hav}{C:hden hs->Prop}{μ:hden hs->Nat}{body:hden hs->Ann P}{st:WSt}{Φ:Kont P}
  (h:wloop cx W f hs C μ body st Φ)(hk:st.Ok){E:Env}(hn:E.n=cx.n)(hK:E.Ks=cx.Ks){a:Act}{w:World}{H:Heap}{β:Bm}(hrep:RepF E (j9 st.toA) a w H β):(Code.loop c).wpIn (Fw ro) n P (Post cx st Φ E) a w:=by
 unfold wloop at h;split at h
 .exact h.elim
 .rename_i st1 hren
  obtain⟨ent1,hk1,r1,r2⟩:=zR (n:=cx.n) (Ks:=cx.Ks) hk hren
  cases hc:jY st1.m&&jY st1.L&&(wk hs).all (λt=>(look st1.rm t).isNone)&&(wP hs).all (λk=>(look st1.rL k).isNone)with
  |false=>rw[hc]at h;exact h.elim
  |true=>
   rw[hc]at h;simp only[cond_true]at h
   simp only[q5m,q6N]at hc;obtain⟨⟨⟨c1,c2⟩,c3⟩,c4⟩:=hc;split at h
   .exact h.elim
   .rename_i vc x0 hv
    obtain⟨hvc,hC0,hround⟩:=AH h;have hround:=L5 hround;generalize hkm:st1.m.filter (KM W hs)=km at hround;generalize hkl:st1.L.filter (KL W hs)=kl at hround
    --the kept part
    have km1: ∀t v,look km t=some v->look st1.m t=some v/\t∉wk hs:=by
     intro t v h;subst hkm;obtain⟨q1,q2⟩:=zr c1 h;simp only[KM,q5m,q5o]at q2;exact⟨q1,λhm=>by rw[z9.2 hm]at q2;exact absurd q2.1.1.2 (by simp)⟩
    have kl1: ∀t v,look kl t=some v->look st1.L t=some v/\t∉wP hs:=by
     intro t v h;subst hkl;obtain⟨q1,q2⟩:=zr c2 h;simp only[KL,q5m,q5o]at q2;exact⟨q1,λhm=>by rw[z9.2 hm]at q2;exact absurd q2.1.1.2 (by simp)⟩
    have hrm: ∀t v,look (km++st1.rm) t=some v->qA st1 t=some v:=by
     intro t v h;rcases EA h with h|⟨_,h⟩
     .unfold qA;rw[(km1 t v h).1]
     .unfold qA;rw[hk1.dm t (by rw[h];simp)];exact h
    have hrL: ∀t v,look (kl++st1.rL) t=some v->qm st1 t=some v:=by
     intro t v h;rcases EA h with h|⟨_,h⟩
     .unfold qm;rw[(kl1 t v h).1]
     .unfold qm;rw[hk1.dl t (by rw[h];simp)];exact h
    have d1: ∀t∈wk hs,look (km++st1.rm) t=none:=by
     intro t ht
     cases hl:look (km++st1.rm) t with
     |none=>rfl
     |some v=>
      rcases EA hl with h|⟨_,h⟩
      .exact absurd ht (km1 t v h).2
      .have:=c3 t ht;rw[h]at this;cases this
    have d2: ∀t∈wP hs,look (kl++st1.rL) t=none:=by
     intro t ht
     cases hl:look (kl++st1.rL) t with
     |none=>rfl
     |some v=>
      rcases EA hl with h|⟨_,h⟩
      .exact absurd ht (kl1 t v h).2
      .have:=c4 t ht;rw[h]at this;cases this
    obtain⟨ent2,hb0⟩:=K1 (n:=cx.n) (Ks:=cx.Ks) hk1 hv hvc hrm hrL d1 d2;obtain⟨H1,β1,hrep1⟩:=Ent.trans ent1 ent2 E hn hK a w H β hrep;have hok: ∀x,HB hs x->(head hs x (km++st1.rm) (kl++st1.rL)).Ok:=λx hb=>WX hb (λt v h=>hk1.m t v (hrm t v h)) (λk b h=>hk1.l k b (hrL k b h)) d1 d2
    refine wpIn_loop_ghost (λm a w=> ∃x H β,HB hs x/\C x/\μ x=m/\RepF E (j9 (head hs x (km++st1.rm) (kl++st1.rL)).toA) a w H β) (μ x0) ⟨x0,H1,β1,hb0,hC0,rfl,hrep1⟩ ?_
    rintro m a w ⟨x,H,β,hbx,hCx,rfl,hr⟩
    refine wpIn_mono (hf ro n hdf _ _ _ (hround x hbx hCx) (hok x hbx) E hn hK a w H β hr) ?_
    rintro e a' w' ⟨ann',st',H',β',hΦ,hk',e1,e2,hr'⟩
    have e1:st'.rm=km++st1.rm:=e1;have e2:st'.rL=kl++st1.rL:=e2
    have hleave: ∀e',(Φ ann' e' (leave km kl st1.rm st1.rL st'))->Post cx st Φ E e' a' w':=by
     intro e' hΦ'
     have htoA:(leave km kl st1.rm st1.rL st').toA=st'.toA:=by
      unfold WSt.toA leave;simp only[e1,e2,q5s]
     have hlm: ∀t,qA (leave km kl st1.rm st1.rL st') t=qA st' t:=by
      intro t;unfold qA leave;simp only[vM,e1];cases look st'.m t<;>cases look km t<;>rfl
     have hll: ∀t,qm (leave km kl st1.rm st1.rL st') t=qm st' t:=by
      intro t;unfold qm leave;simp only[vM,e2];cases look st'.L t<;>cases look kl t<;>rfl
     refine⟨ann',_,H',β',hΦ',⟨λt v h=>hk'.m t v (by rw[<-hlm];exact h),λk b h=>hk'.l k b (by rw[<-hll];exact h),λt ht=>?_,λk hk''=>?_⟩,r1,r2,by rw[htoA];exact hr'⟩
     .have ht':look st1.rm t≠none:=ht
      show look (st'.m++km) t=none;have h1:=hk'.dm t (by rw[e1,vM];cases look km t<;>simp[ht']);rw[vM,h1];simp only
      cases hl:look km t with
      |none=>rfl
      |some v=>exact absurd (hk1.dm t ht') (by rw[(km1 t v hl).1];simp)
     .have ht':look st1.rL k≠none:=hk''
      show look (st'.L++kl) k=none;have h1:=hk'.dl k (by rw[e2,vM];cases look kl k<;>simp[ht']);rw[vM,h1];simp only
      cases hl:look kl k with
      |none=>rfl
      |some v=>exact absurd (hk1.dl k ht') (by rw[(kl1 k v hl).1];simp)
    cases e with
    |normal=>
     simp only at hΦ;split at hΦ
     .exact hΦ.elim
     .rename_i st2 hren2
      split at hΦ
      .exact hΦ.elim
      .rename_i vc' x1 hv2
       obtain⟨hvc2,hC1,hlt⟩:=AH hΦ;obtain⟨ent3,hk3,s1,s2⟩:=zR (n:=cx.n) (Ks:=cx.Ks) hk' hren2
       have hrm2: ∀t v,look (km++st1.rm) t=some v->qA st2 t=some v:=by
        intro t v h;have h2:look st2.rm t=some v:=by rw[s1,e1];exact h
        unfold qA;rw[hk3.dm t (by rw[h2];simp)];exact h2
       have hrL2: ∀t v,look (kl++st1.rL) t=some v->qm st2 t=some v:=by
        intro t v h;have h2:look st2.rL t=some v:=by rw[s2,e2];exact h
        unfold qm;rw[hk3.dl t (by rw[h2];simp)];exact h2
       obtain⟨ent4,hb1⟩:=K1 (n:=cx.n) (Ks:=cx.Ks) hk3 hv2 hvc2 hrm2 hrL2 d1 d2;obtain⟨H2,β2,hrep2⟩:=Ent.trans ent3 ent4 E hn hK a' w' H' β' hr';exact⟨μ x1,hlt,x1,H2,β2,hb1,hC1,rfl,hrep2⟩
    |_=>exact hleave _ hΦ
theorem CT(hm:P.follows .mixedOrders=true){cx:Cx P}: ∀c:Code,Snd cx c (wp cx c):=by
 intro c
 induction c with
 |skip=>exact λro n hdf ann st Φ h hk E hn hK a w H β hrep=>wpIn_skip ⟨ann,st,H,β,h,hk,rfl,rfl,hrep⟩
 |region id ops draw=>exact Pr hm
 |seq x y ihx ihy=>
  intro ro n hdf ann st Φ h hk E hn hK a w H β hrep;have hx:Dfc ro x:=hdf.imp id λe=>by simp only[noDf,q5m]at e;exact e.1
  have hy:Dfc ro y:=hdf.imp id λe=>by simp only[noDf,q5m]at e;exact e.2
  refine wpIn_seq (wpIn_mono (ihx ro n hx ann st _ h hk E hn hK a w H β hrep) ?_)
  rintro e a' w' ⟨ann',st',H',β',hΦ,hk',r1,r2,hr⟩
  cases e with
  |normal=>
   refine wpIn_mono (ihy ro n hy ann' st' Φ hΦ hk' E hn hK a' w' H' β' hr) ?_
   rintro e a'' w'' ⟨ann'',st'',H'',β'',hΦ',hk'',q1,q2,hr'⟩
   exact⟨ann'',st'',H'',β'',hΦ',hk'',q1.trans r1,q2.trans r2,hr'⟩
  |_=>exact⟨ann',st',H',β',hΦ,hk',r1,r2,hr⟩
 |cond t x y ihx ihy=>
  intro ro n hdf ann st Φ h hk E hn hK a w H β hrep;have hx:Dfc ro x:=hdf.imp id λe=>by simp only[noDf,q5m]at e;exact e.1
  have hy:Dfc ro y:=hdf.imp id λe=>by simp only[noDf,q5m]at e;exact e.2
  have ihx:=ihx ro n hx;have ihy:=ihy ro n hy
  have hev: ∀v,D3 st t=some v->v.exp.sat β H (a.eval t):=by
   intro v hv;have:=(HP hk hv).1;have h2:=D1 hrep (xs:=[t]) (vs:=[v.exp]) (by simp only[Ep,this]) (λ_ _=>rfl) (t,v.exp) (by simp);exact h2
  simp only[wp]at h;split at h
  .rename_i b hb
   have:=(hev _ hb).1;have he:a.eval t= .bool b:=this
   cases b with
   |true=>exact wpIn_cond_split he (λ_=>ihx ann st Φ h hk E hn hK a w H β hrep) (λe=>by cases e)
   |false=>exact wpIn_cond_split he (λe=>by cases e) (λ_=>ihy ann st Φ h hk E hn hK a w H β hrep)
  .rename_i q i hb
   have he:a.eval t= .bool (@decide q i):=(hev _ hb).1;exact wpIn_cond_split he (λe=>ihx _ st Φ (wZ (h.1 (of_decide_eq_true e))) hk E hn hK a w H β hrep) (λe=>ihy _ st Φ (wZ (h.2 (of_decide_eq_false e))) hk E hn hK a w H β hrep)
  .rename_i bb b hb
   have he:a.eval t= .bool b:=(hev _ hb).1;exact wpIn_cond_split he (λe=>ihx _ st Φ (wZ (h.1 e)) hk E hn hK a w H β hrep) (λe=>ihy _ st Φ (wZ (h.2 (by rw[e];simp))) hk E hn hK a w H β hrep)
  .rename_i C hb
   obtain⟨b,he,hC⟩:=hev _ hb;exact wpIn_cond_split he (λe=>ihx _ st Φ (wZ (h.1 (hC e))) hk E hn hK a w H β hrep) (λe=>ihy _ st Φ (wZ h.2) hk E hn hK a w H β hrep)
  .exact h.elim
 |block id c ih=>
  intro ro n hdf ann st Φ h hk E hn hK a w H β hrep;refine wpIn_block (wpIn_mono (ih ro n hdf ann st _ h hk E hn hK a w H β hrep) ?_)
  rintro e a' w' ⟨ann',st',H',β',hΦ,hk',r1,r2,hr⟩
  cases e with
  |exit id'=>
   simp only[Exit.inBlock];simp only at hΦ;by_cases e:id'=id
   .subst e
    rw[show Nat.beq id' id'=true from Nat.beq_refl id']at hΦ;rw[if_pos rfl];exact⟨ann',st',H',β',hΦ,hk',r1,r2,hr⟩
   .rw[jm e]at hΦ
    rw[if_neg e];exact⟨ann',st',H',β',hΦ,hk',r1,r2,hr⟩
  |_=>exact⟨ann',st',H',β',hΦ,hk',r1,r2,hr⟩
 |loop c ih=>
  intro ro n hdf ann st Φ h hk E hn hK a w H β hrep;simp only[wp]at h;split at h
  .exact Sh (c:=c) hdf ih h hk hn hK hrep
  .exact TC ih 1000 ro n hdf _ st Φ h hk E hn hK a w H β hrep
 |exit id=>exact λro n hdf ann st Φ h hk E hn hK a w H β hrep=>wpIn_exit ⟨ann,st,H,β,h,hk,rfl,rfl,hrep⟩
 |ret=>exact λro n hdf ann st Φ h hk E hn hK a w H β hrep=>wpIn_ret ⟨ann,st,H,β,h,hk,rfl,rfl,hrep⟩
 |label l=>exact λro n hdf ann st Φ h hk E hn hK a w H β hrep=>wpIn_label ⟨ann,st,H,β,h,hk,rfl,rfl,hrep⟩
 |_=>exact λro n hdf ann st Φ h=>h.elim
end
end
section
section
variable {P:Program}
def resC(P:Program)(st:WSt):ResultVar->Option WC
 | .tmp t=>match qA st t with
  |some (.c x)=>some x
  |_=>none
 | .cell a t=>match qA st a with
  |some (.c (.one (.loc k off)))=>match qm st k with
   |some (.rig l)=>match jl P t with
    |some (g,s)=>match carve l off s with
     |some (_,m,_)=>EE g m
     |none=>none
    |none=>none
   |_=>none
  |_=>none
def Gj(P:Program)(st:WSt):List ResultVar->Option (List WC)
 |[]=>some []
 |r::rs=>match resC P st r with
  |some x=>match Gj P st rs with
   |some l=>some (x::l)
   |none=>none
  |none=>none
def resV(P:Program)(st:WSt)(rs:List ResultVar):Option WV:=
 match Gj P st rs with
 |some [x]=>some (.c x)
 |some l=>some (.tup l)
 |none=>none
theorem RQ{st:WSt}(hk:st.Ok){r:ResultVar}{x:WC}(h:resC P st r=some x):DZ P st.toA r=some x.exp/\x.ok:=by
 unfold resC at h;unfold DZ;split at h
 .rename_i t
  split at h
  .rename_i y hy
   simp only[q6E]at h;subst h
   simp only[vd,hy,q6D,WV.exp];exact⟨trivial,hk.m t _ hy⟩
  .cases h
 .rename_i a t
  split at h
  .rename_i k off ha
   split at h
   .rename_i l hl
    split at h
    .rename_i g s hs
     split at h
     .rename_i p m q hc
      obtain⟨h1,h2⟩:=wg hc;have hok:=((vr hc).2.2.2 (hk.l k _ hl)).2.1;refine⟨?_,M8 h hok⟩;have hlka:look st.toA.m a=some (.c (.one (.loc k off))):=by rw[vd,ha];rfl
      have hlk:look st.toA.L k=some (.rigid (WAs.exp l)):=by rw[qJ,hl];rfl
      have hac:EW P (look st.toA.L) t (.c (.one (.loc k off)))=some (.c x.exp,[k],[]):=by
       simp only[EW,hlk,hs]
       cases g with
       |true=>
        rw[Fb h];have hble:Nat.ble (off+s) (WAs.exp l).length=true:=Nat.ble_eq_true_of_le h2;simp only[hble,cond_true,h1];rfl
       |false=>
        obtain⟨u,e1,e2,_⟩:=Fc h;rw[e2]at h1;have:=A1 (t:=t) h1 h2;subst this;simp only[DV h1,e1]
      simp only[hlka,hac]
     .cases h
    .cases h
   .cases h
  .cases h
theorem EI{st:WSt}(hk:st.Ok): ∀{rs:List ResultVar}{l:List WC},Gj P st rs=some l->As P st.toA rs=some (l.map WC.exp)/\ ∀x∈l,x.ok
 |[],l,h=>by simp[Gj]at h;subst h;exact⟨rfl,λx hx=>by simp at hx⟩
 |r::rs,l,h=>by
  simp only[Gj]at h
  cases hx:resC P st r with
  |none=>rw[hx]at h;cases h
  |some x=>
   rw[hx]at h;simp only at h
   cases hl:Gj P st rs with
   |none=>rw[hl]at h;cases h
   |some l'=>
    rw[hl]at h;simp at h;subst h
    obtain⟨h1,h2⟩:=RQ hk hx;obtain⟨h3,h4⟩:=EI hk hl;refine⟨by simp only[As,h1,h3];rfl,λy hy=>?_⟩;rcases q5O.1 hy with rfl|hy
    .exact h2
    .exact h4 y hy
theorem BU{st:WSt}(hk:st.Ok){rs:List ResultVar}{R:WV}(h:resV P st rs=some R):BG P st.toA rs=some R.exp/\R.ok:=by
 unfold resV at h;unfold BG;split at h
 .rename_i x hx
  simp only[q6E]at h;subst h
  obtain⟨h1,h2⟩:=EI hk hx;rw[h1];exact⟨rfl,h2 x (by simp)⟩
 .rename_i l hne hx
  simp only[q6E]at h;subst h
  obtain⟨h1,h2⟩:=EI hk hx;rw[h1];refine⟨?_,h2⟩
  match l,hne with
  |[],_=>rfl
  |[x],hne=>exact(hne x rfl).elim
  |_::_::_,_=>rfl
 .cases h
def cmpC:WC->WC->Option (List Prop)
 | .agg [.dt t _ x],y=>bif BO y then(match reify t y.cells with
  |some (_,x',[])=>some [x'=x]
  |_=>none)else none
 | .one (.dt t _ x),y=>bif BO y then none else(match reify t y.cells with
  |some (_,x',[])=>some [x'=x]
  |_=>none)
 | .one (.kn k z),.one a=>match a with
  | .kn k' z'=>bif kbeq k k'&&decide (z'=z)then some []else none
  |a=>match asZ a with
   |some (k',_,z')=>bif kbeq k' k then some [z'=z]else none
   |none=>none
 | .one (.vl u),.one (.vl u')=>bif veq u u' then some []else none
 | .one (.vl (.bool b)),.one (.pp q _)=>some [match b with|true=>q|false=> ¬q]
 | .one (.gs d n w _),.one (.gs d' n' w' _)=>bif Nat.beq d d'&&Nat.beq w w' then some [n'=n]else none
 |_,_=>none
theorem JQ{x y:WC}{vc:List Prop}(h:cmpC x y=some vc)(hy:y.ok)(hx:x.ok)(hvc: ∀p∈vc,p):CImp y.exp x.exp:=by
 unfold cmpC at h;split at h
 .rename_i t b z
  cases hb:BO y with
  |false=>rw[hb]at h;cases h
  |true=>
   rw[hb]at h;simp only[cond_true]at h
   split at h
   .rename_i b' z' hr
    simp only[q6E]at h;subst h
    have:z'=z:=hvc _ q5Q;subst this;obtain⟨m,e1,i1,_⟩:=vv hr;have e1:WAs.exp y.cells=m:=by rw[e1];simp[WAs.exp]
    subst e1
    cases y with
    |one a=>cases hb
    |agg l=>exact HK (by show AImps (WAs.exp l) (WAs.exp [.dt t b z']);rw[zi];exact i1)
   .cases h
 .rename_i t b z
  cases hb:BO y with
  |true=>rw[hb]at h;cases h
  |false=>
   rw[hb]at h;simp only[cond_false]at h
   split at h
   .rename_i b' z' hr
    simp only[q6E]at h;subst h
    have:z'=z:=hvc _ q5Q;subst this;obtain⟨m,e1,i1,_⟩:=vv hr;have e1:WAs.exp y.cells=m:=by rw[e1];simp[WAs.exp]
    subst e1
    cases y with
    |agg l=>cases hb
    |one a=>
     have ha:WAs.exp (WC.one a).cells=[a.exp.headD (.val (.bool false))]:=by rw[<-WC.exp_cells hy];rfl
     rw[ha]at i1;have h2:(WA.dt t b z').exp=[(WA.dt t b z').exp.headD (.val (.bool false))]:=WA.exp_one hx.2;have h3:(WA.dt t b z').exp=qO t z':=rfl;rw[<-h3,h2]at i1;exact LC i1.1
   .cases h
 .rename_i k z a
  split at h
  .rename_i k' z'
   cases hc:kbeq k k'&&decide (z'=z)with
   |false=>rw[hc]at h;cases h
   |true=>
    simp only[q5m,decide_eq_true_eq]at hc;have:=vG hc.1;subst this
    have:=hc.2;subst this
    exact IX
  .split at h
   .rename_i k' b z' ha
    cases hc:kbeq k' k with
    |false=>rw[hc]at h;cases h
    |true=>
     have:=vG hc;subst this
     rw[hc]at h;simp only[cond_true,q6E]at h;subst h
     have:z'=z:=hvc _ q5Q;subst this;refine Ue ?_;simp only[WC.exp,(vw ha).1,List.headD_cons];rfl
   .cases h
 .rename_i u u'
  cases hc:veq u u' with
  |false=>rw[hc]at h;cases h
  |true=>have:=Sf hc;subst this;exact IX
 .rename_i b q i
  simp only[q6E]at h;subst h
  have h1:=hvc _ q5Q;refine Ue ?_;show Cmp.one (.val (.bool (@decide q i)))= .one (.val (.bool b))
  cases b with
  |true=>rw[show @decide q i=true from decide_eq_true h1]
  |false=>rw[show @decide q i=false from decide_eq_false h1]
 .rename_i d n w nb d' n' w' nb'
  cases hc:Nat.beq d d'&&Nat.beq w w' with
  |false=>rw[hc]at h;cases h
  |true=>
   simp only[q5m]at hc;have:=q68 hc.1;subst this
   rw[show(Nat.beq d d&&Nat.beq w w')=true by simp[hc.2]]at h;simp only[cond_true,q6E]at h;subst h
   have:n'=n:=hvc _ q5Q;subst this;exact IX
 .cases h
def Ei:List WC->List WC->Option (List Prop)
 |[],[]=>some []
 |x::r,y::s=>match cmpC x y with
  |some v=>match Ei r s with
   |some v'=>some (v++v')
   |none=>none
  |none=>none
 |_,_=>none
theorem HL: ∀{l l':List WC}{vc:List Prop},Ei l l'=some vc->(∀x∈l',x.ok)->(∀x∈l,x.ok)->(∀p∈vc,p)->CImps (l'.map WC.exp) (l.map WC.exp)
 |[],[],_,_,_,_,_=>trivial
 |x::r,y::s,vc,h,h1,h2,hvc=>by
  simp only[Ei]at h
  cases hc:cmpC x y with
  |none=>rw[hc]at h;cases h
  |some v=>
   rw[hc]at h;simp only at h
   cases hr:Ei r s with
   |none=>rw[hr]at h;cases h
   |some v'=>
    rw[hr]at h;simp only[q6E]at h;subst h
    obtain⟨p1,p2⟩:=AllP.app hvc;exact⟨JQ hc (h1 y q5Q) (h2 x q5Q) p1,HL hr (λz hz=>h1 z (q5P _ hz)) (λz hz=>h2 z (q5P _ hz)) p2⟩
 |[],_::_,_,h,_,_,_=>by simp[Ei]at h
 |_::_,[],_,h,_,_,_=>by simp[Ei]at h
def cmpV:WV->WV->Option (List Prop)
 | .c x,.c y=>cmpC x y
 | .tup l,.tup l'=>Ei l l'
 |_,_=>none
theorem Qh{x y:WV}{vc:List Prop}(h:cmpV x y=some vc)(hy:y.ok)(hx:x.ok)(hvc: ∀p∈vc,p): ∀β H v,y.exp.sat β H v->x.exp.sat β H v:=by
 unfold cmpV at h;split at h
 .exact G0 (JQ h hy hx hvc)
 .exact WY (HL h hy hx hvc)
 .cases h
def retV(P:Program)(rs:List ResultVar)(R:WV)(st:WSt):Option (List Prop):=
 match resV P st rs with
 |some R'=>cmpV R R'
 |none=>none
def retW(P:Program)(rs:List ResultVar)(R:WV)(e:Exit)(st:WSt):Prop:=
 match e with
 | .normal=>(match retV P rs R st with|some vc=>call vc|none=>False)
 | .ret=>(match retV P rs R st with|some vc=>call vc|none=>False)
 |_=>False
theorem Ke{rs:List ResultVar}{R:WV}{st:WSt}(hk:st.Ok)(hR:R.ok){vc:List Prop}(h:retV P rs R st=some vc)(hvc: ∀p∈vc,p): ∃R',BG P st.toA rs=some R'/\ ∀β H v,R'.sat β H v->R.exp.sat β H v:=by
 unfold retV at h;split at h
 .rename_i R' hR'
  obtain⟨h1,h2⟩:=BU hk hR';exact⟨_,h1,Qh h h2 hR hvc⟩
 .cases h
theorem Af{rs:List ResultVar}{R:WV}{st:WSt}(hk:st.Ok)(hR:R.ok){e:Exit}(h:retW P rs R e st):(e= .normal\/e= .ret)/\ ∃R',BG P st.toA rs=some R'/\ ∀β H v,R'.sat β H v->R.exp.sat β H v:=by
 cases e with
 |normal=>
  simp only[retW]at h;split at h
  .rename_i vc hvc;exact⟨.inl rfl,Ke hk hR hvc (GO h)⟩
  .exact h.elim
 |ret=>
  simp only[retW]at h;split at h
  .rename_i vc hvc;exact⟨.inr rfl,Ke hk hR hvc (GO h)⟩
  .exact h.elim
 |_=>exact h.elim
def zipW:Nat->List WV->List (Nat×WV)
 |_,[]=>[]
 |i,a::r=>(i,a)::zipW (i+1) r
theorem N5: ∀(l:List WV)(i:Nat),(zipW i l).map (λp=>(p.1,p.2.exp))=BA i (l.map WV.exp)
 |[],_=>rfl
 |a::r,i=>by simp only[zipW,q5M,BA,N5 r]
theorem K6: ∀{l:List WV}{i t:Nat}{v:WV},look (zipW i l) t=some v->v∈l
 |a::r,i,t,v,h=>by
  simp only[zipW,look]at h;by_cases e:i=t
  .subst e;simp at h;subst h;exact q5Q
  .rw[jm e]at h;exact q5P _ (K6 h)
 |[],_,_,_,h=>by simp[zipW,look]at h
def jM(vs:List WV)(L:List (Nat×WB)):WSt:=⟨[],zipW 0 vs,[],L⟩
theorem zO(vs:List WV)(L:List (Nat×WB)):(jM vs L).toA=zT (vs.map WV.exp) (L.map λp=>(p.1,p.2.exp)):=by
 unfold WSt.toA jM zT;simp only[List.append_nil,N5]
theorem wm{vs:List WV}{L:List (Nat×WB)}(h: ∀v∈vs,v.ok)(hL: ∀p∈L,p.2.ok):(jM vs L).Ok:=by
 refine⟨λt v hv=>?_,λk b hb=>?_,λt ht=>absurd rfl ht,λk hk=>absurd rfl hk⟩
 .unfold qA jM at hv
  simp only at hv
  cases hl:look (zipW 0 vs) t with
  |some x=>rw[hl]at hv;simp at hv;subst hv;exact h _ (K6 hl)
  |none=>rw[hl]at hv;simp[look]at hv
 .unfold qm jM at hb
  simp only at hb
  cases hl:look L k with
  |some x=>rw[hl]at hb;simp at hb;subst hb;exact hL _ (qR hl)
  |none=>rw[hl]at hb;simp[look]at hb
theorem Dt(hm:P.follows .mixedOrders=true){cx:Cx P}{c:Code}{ann:Ann P}{st:WSt}{Φ:Kont P}(h:wp cx c ann st Φ)(hk:st.Ok):Tr P cx.n cx.Ks c st.toA (λe s=> ∃ann st',s=st'.toA/\st'.Ok/\Φ ann e st'):=by
 intro E hn hK a w H β hr;refine wp_mono (wpIn_wide.1 (CT hm c none 0 (.inl rfl) ann st Φ h hk E hn hK a w H β hr)) ?_
 rintro e a' w' ⟨ann',st',H',β',hΦ,hk',_,_,hr'⟩
 exact⟨st'.toA,H',β',⟨ann',st',rfl,hk',hΦ⟩,hr'⟩
theorem FZ{R:WV}(h:R.ids=[])(k:Nat):R.exp.men k=false:=by
 cases hm:R.exp.men k with
 |false=>rfl
 |true=>have:=WV.men_ids hm;rw[h]at this;simp at this
structure Hold (p:Prop):Prop where
 h:p
theorem sigW(hm:P.follows .mixedOrders=true){f:FuncId}{fn:Func}{c:Code}{n:Nat}(hf:P.funcs[f]?=some fn)(hb:fn.body=some c)(hn:fn.ntmps=n)(hname:fn.name≠ "runtime.NumGoroutine")
  {G:List (Nat×Hint P)}{ts:List Ty}{bs:List Bd}{x:dens ts}{R:WV}(hx:Bnds ts bs x)(hlen:Nat.ble (jh ts bs x).length n=true)(hR:R.ids=[])(hRk:R.ok)(ann:Ann P)
  (hh:Hold (wp ⟨G,n,[]⟩ c ann (jM (jh ts bs x) []) (λan e st=>wpre ⟨G,n,[]⟩ 999999 an st λ_ st=>retW P fn.results.toList R e st))):Sig P f (argsE ts x) R.exp:=by
 have h:=hh.h;have hok:=wH hx;have ht:=Dt hm h (wm hok (λp hp=>by simp at hp));rw[zO]at ht;rw[<-w4 ts bs x];refine TN hf hb hn hname (by rw[q5J];exact q6a hlen) (FZ hR) ?_;intro E hn' hK a w H β hr;refine wp_mono (ht E hn' hK a w H β hr) ?_
 rintro e a' w' ⟨s,H',β',⟨ann',st0,rfl,hk0,hΨ⟩,hr0⟩
 obtain⟨_,st',hΦ,hk',he,_,_⟩:=zB hΨ hk0;obtain⟨H',β',hr'⟩:=he E hn' hK a' w' H' β' hr0;obtain⟨h1,h2⟩:=Af hk' hRk hΦ;exact⟨st'.toA,H',β',⟨h1,h2⟩,hr'⟩
def Gk(P:Program)(rs:List ResultVar)(R:WV)(k0:Nat)(t:Ty)(l:List t.den)(e:Exit)(st:WSt):Prop:=
 match qm st k0 with
 |some (.gro t' _ l')=>if h:(Ty.sl t').beq (.sl t)=true then vi (t:= .sl t') (t':= .sl t) h l'=l/\retW P rs R e st else False
 |_=>False
def retO(P:Program)(rs:List ResultVar)(R:WV)(k0:Nat)(t:Ty)(l:List t.den)(e:Exit)(st:WSt):Prop:=
 match rs with
 |[.tmp r]=>match renG r k0 t .u st with
  |some st'=>Gk P rs R k0 t l e st'
  |none=>Gk P rs R k0 t l e st
 |_=>Gk P rs R k0 t l e st
theorem Kd{P:Program}{n:Nat}{Ks:List Nat}{rs:List ResultVar}{R:WV}{k0:Nat}{t:Ty}{l:List t.den}{e:Exit}{st:WSt}(hk:st.Ok)(h:retO P rs R k0 t l e st): ∃st',EntW n Ks st st'/\st'.Ok/\Gk P rs R k0 t l e st':=by
 unfold retO at h;split at h
 .split at h
  .rename_i st' hr
   obtain⟨h1,h2,_⟩:=Fl (n:=n) (Ks:=Ks) hk hr;exact⟨st',h1,h2,h⟩
  .exact⟨st,Ent.refl,hk,h⟩
 .exact⟨st,Ent.refl,hk,h⟩
theorem sigO(hm:P.follows .mixedOrders=true){f:FuncId}{fn:Func}{c:Code}{n:Nat}(d:Nat)(hf:P.funcs[f]?=some fn)(hb:fn.body=some c)(hn:fn.ntmps=n)(hname:fn.name≠ "runtime.NumGoroutine")
  {G:List (Nat×Hint P)}{ts:List Ty}{bs:List Bd}{x:dens ts}{R:Nat->WV}(k0:Nat){t:Ty}{b:Bd}{l:List t.den}(hx:Bnds ts bs x)(hlen:Nat.ble (jh ts bs x).length n=true)(hRk: ∀k,(R k).ok)
  (hRρ: ∀(ρ:Nat->Nat) k,(R k).exp.map ρ=(R (ρ k)).exp)(hRi: ∀k,(R k).ids=[k])(ann:Ann P)
  (hh:Hold (wp ⟨G,n,[]⟩ c ann (jM (jh ts bs x) []) (λ_ e st=>retO P fn.results.toList (R k0) k0 t l e st))):vQ P f (argsE ts x) [] (R d).exp [(d,some (WB.gro t b l).exp)]:=by
 have h:=hh.h;have hok:=wH hx;have ht:=Dt hm h (wm hok (λp hp=>by simp at hp));rw[zO]at ht;rw[<-w4 ts bs x];have hkn:qX [] [(d,some (Blk.grow t.w (je t l)))]=[d]:=rfl;have hcm: ∀ρ:Nat->Nat,(je t l).map (Atom.map ρ)=je t l:=λρ=>by rw[vU];exact C0 ρ _
 refine AZ (λk=>if k=d then k0 else k) hf hb hn hname (by rw[q5J];exact q6a hlen) (λp hp=>by simp at hp) (λp hp=>by simp at hp) (λp hp=>by simp at hp) (λp hp=>by simp at hp) ?_ ?_ ?_
 .intro k hk k' b' hb' hne
  have hk:k∈[d]:=hk;simp only[q5U,q6F]at hk hb';exact absurd (hk.trans hb'.1.symm) hne
 .rintro k (hk|⟨k',b',hb',hm'⟩)
  .left
   have:=WV.men_ids hk;rw[hRi]at this;show k∈[d];exact this
  .simp only[q5U,q6F,q6E]at hb'
   obtain⟨rfl,rfl⟩:=hb';simp only[WB.exp,Blk.men,zI]at hm';cases hm'
 .intro E hn' hK a w H β hr
  refine wp_mono (ht E hn' hK a w H β hr) ?_
  rintro e a' w' ⟨s,H',β',⟨ann',st0,rfl,hk0,hΨ⟩,hr0⟩
  obtain⟨st',he,hk',hΦ⟩:=Kd (n:=n) (Ks:=[]) hk0 hΨ;clear hΨ;obtain⟨H',β',hr'⟩:=he E hn' hK a' w' H' β' hr0;unfold Gk at hΦ;split at hΦ
  .rename_i t' b' l' hl
   split at hΦ
   .rename_i hbt
    have:=Ty.beq_eq hbt;cases this;obtain⟨h0,hΦ⟩:=hΦ;have h0:l'=l:=h0;subst h0;obtain⟨h1,R',h2,h3⟩:=Af hk' (hRk k0) hΦ;refine⟨st'.toA,H',β',⟨h1,⟨R',h2,λβ H v hv=>?_⟩,?_⟩,hr'⟩
    .have hs:=h3 β H v hv
     refine(AV.sat_map (ρ:=λk=>if k=d then k0 else k) (β:=β) (H:=H) (a:=(R d).exp) (v:=v)).1 ?_;rw[hRρ];show(R (if d=d then k0 else d)).exp.sat β H v;rw[if_pos rfl];exact hs
    .intro k b1 hb1
     simp only[q5U,q6F,q6E]at hb1;obtain⟨rfl,rfl⟩:=hb1;refine⟨.grow t.w (je t l'),by rw[show(if k=k then k0 else k)=k0 from if_pos rfl,qJ,hl];rfl,?_⟩;intro β w H hh;have:=(Blk.rep_map (ρ:=λq=>if q=k then k0 else q) (β:=β) (w:=w) (H:=H) (k:=k) (x:= .grow t.w (je t l'))).1 (by simp only[Blk.map,hcm,if_true];simpa using hh);exact this
   .exact hΦ.elim
  .exact hΦ.elim
def retB(P:Program)(rs:List ResultVar)(R:WV)(t:Ty)(s:t.den)(e:Exit)(st:WSt):Prop:=
 match qm st 100000 with
 |some (.rig l)=>match reify t l with
  |some (_,s',[])=>s'=s/\retW P rs R e st
  |_=>False
 |_=>False
theorem sigB(hm:P.follows .mixedOrders=true){f:FuncId}{fn:Func}{c:Code}{n:Nat}(hf:P.funcs[f]?=some fn)(hb:fn.body=some c)(hn:fn.ntmps=n)(hname:fn.name≠ "runtime.NumGoroutine")
  {G:List (Nat×Hint P)}{t:Ty}{tb:Bd}{s:t.den}{ts:List Ty}{bs:List Bd}{x:dens ts}{R:WV}{s':t.den}(hs:Bnd t tb s)(hx:Bnds ts bs x)(hlen:Nat.ble ((jh ts bs x).length+1) n=true)(hR:R.ids=[])(hRk:R.ok)(ann:Ann P)
  (hh:Hold (wp ⟨G,n,[100000]⟩ c ann (jM (.c (.one (.loc 100000 0))::jh ts bs x) [(100000,.rig [.dt t tb s])]) (λan e st=>wpre ⟨G,n,[100000]⟩ 999999 an st λ_ st=>retB P fn.results.toList R t s' e st))):
  vQ P f (.c (.one (.loc 100000 0))::argsE ts x) [(100000,.rigid (qO t s))] R.exp [(100000,some (.rigid (qO t s')))]:=by
 have h:=hh.h;have hok:=wH hx
 have ht:=Dt hm h (wm (λv hv=>by
  rcases q5O.1 hv with rfl|hv
  .exact⟨trivial,rfl⟩
  .exact hok v hv) (λp hp=>by simp only[q5U]at hp;subst hp;exact v9 hs))
 rw[zO]at ht;rw[<-w4 ts bs x];have hexp:(WB.rig [.dt t tb s]).exp= .rigid (qO t s):=by show Blk.rigid (WAs.exp _)=_;rw[zi]
 have hst:([(100000,WB.rig [.dt t tb s])]:List (Nat×WB)).map (λp=>(p.1,p.2.exp))=[(100000,.rigid (qO t s))]:=by rw[q5M,List.map_nil,hexp]
 rw[hst]at ht;refine AZ (λk=>k) hf hb hn hname (by rw[q5H,q5J];exact q6a hlen) ?_ ?_ ?_ ?_ ?_ ?_ ?_
 .intro p hp;simp only[q5U]at hp;subst hp;exact q6d _
 .intro p hp;simp only[q5U]at hp;subst hp;exact⟨_,q5Q⟩
 .intro p hp;simp only[q5U]at hp;subst hp;simp[look]
 .intro p hp;rfl
 .intro k hk k' b hb' hne;exact hne
 .rintro k (hk|⟨k',b,hb',hm'⟩)
  .rw[FZ hR k]at hk;cases hk
  .simp only[q5U,q6F,q6E]at hb'
   obtain⟨rfl,rfl⟩:=hb';simp only[Blk.men,Eg]at hm';cases hm'
 .intro E hn' hK a w H β hr
  refine wp_mono (ht E hn' hK a w H β hr) ?_
  rintro e a' w' ⟨z,H',β',⟨ann',st0,rfl,hk0,hΨ⟩,hr0⟩
  obtain⟨_,st',hΦ,hk',he,_,_⟩:=zB hΨ hk0;clear hΨ;obtain⟨H',β',hr'⟩:=he E hn' hK a' w' H' β' hr0;unfold retB at hΦ;split at hΦ
  .rename_i l hl
   split at hΦ
   .rename_i b' s1 hrf
    obtain⟨h0,hΦ⟩:=hΦ;subst h0;obtain⟨h1,R',h2,h3⟩:=Af hk' hRk hΦ;obtain⟨m,e1,i1,_⟩:=vv hrf;have e1:WAs.exp l=m:=by rw[e1];simp[WAs.exp]
    subst e1;refine⟨st'.toA,H',β',⟨h1,⟨R',h2,h3⟩,λk b hb'=>?_⟩,hr'⟩;simp only[q5U,q6F,q6E]at hb';obtain⟨rfl,rfl⟩:=hb';exact⟨.rigid (WAs.exp l),by rw[qJ,hl];rfl,zM i1⟩
   .exact hΦ.elim
  .exact hΦ.elim
def retS(P:Program)(rs:List ResultVar)(R:WV)(g:Bool)(t:Ty)(l:List t.den)(e:Exit)(st:WSt):Prop:=
 match qm st 100000 with
 |some B=>match blOf g t B with
  |some (_,l')=>l'=l/\retW P rs R e st
  |none=>False
 |none=>False
theorem sigS(hm:P.follows .mixedOrders=true){f:FuncId}{fn:Func}{c:Code}{n:Nat}(hf:P.funcs[f]?=some fn)(hb:fn.body=some c)(hn:fn.ntmps=n)(hname:fn.name≠ "runtime.NumGoroutine")
  {G:List (Nat×Hint P)}{g:Bool}{t:Ty}{eb:Bd}{l l':List t.den}{lo m cap nb:Nat}{ts:List Ty}{bs:List Bd}{x:dens ts}{R:WV}(hs: ∀u∈l,Bnd t eb u)(hmc:m<=cap)(hmb:m<=nb)(hx:Bnds ts bs x)(hlen:Nat.ble ((jh ts bs x).length+1) n=true)(hR:R.ids.all (Nat.beq 100000)=true)(hRk:R.ok)(ann:Ann P)
  (hh:Hold (wp ⟨G,n,[100000]⟩ c ann (jM (.c (.one (mkS g t 100000 lo m cap nb))::jh ts bs x) [(100000,mkB g t eb l)]) (λan e st=>wpre ⟨G,n,[100000]⟩ 999999 an st λ_ st=>retS P fn.results.toList R g t l' e st))):
  vQ P f (.c (.one (sA g t.w 100000 lo m cap))::argsE ts x) [(100000,sB g t l)] R.exp [(100000,some (sB g t l'))]:=by
 have h:=hh.h;have hok:=wH hx
 have ht:=Dt hm h (wm (λv hv=>by
  rcases q5O.1 hv with rfl|hv
  .cases g
   .exact⟨⟨hmc,hmb⟩,rfl⟩
   .exact⟨hmb,rfl⟩
  .exact hok v hv) (λp hp=>by simp only[q5U]at hp;subst hp;exact Ic hs))
 rw[zO]at ht;rw[<-w4 ts bs x];have hst:([(100000,mkB g t eb l)]:List (Nat×WB)).map (λp=>(p.1,p.2.exp))=[(100000,sB g t l)]:=by rw[q5M,List.map_nil,G8]
 have hv1:(WV.c (.one (mkS g t 100000 lo m cap nb))).exp= .c (.one (sA g t.w 100000 lo m cap)):=by cases g<;>rfl
 rw[hst,q5M,hv1]at ht;refine AZ (λk=>k) hf hb hn hname (by rw[q5H,q5J];exact q6a hlen) ?_ ?_ ?_ ?_ ?_ ?_ ?_
 .intro p hp;simp only[q5U]at hp;subst hp;exact q6d _
 .intro p hp;simp only[q5U]at hp;subst hp;exact⟨_,q5Q⟩
 .intro p hp;simp only[q5U]at hp;subst hp;simp[look]
 .intro p hp;rfl
 .intro k hk k' b hb' hne;exact hne
 .rintro k (hk|⟨k',b,hb',hm'⟩)
  .have:=q6N.1 hR _ (WV.men_ids hk)
   have:=q68 this;subst this;right;simp[look]
  .simp only[q5U,q6F,q6E]at hb'
   obtain⟨rfl,rfl⟩:=hb'
   have:(sB g t l').men k=false:=by
    unfold sB;cases g<;>exact zI _ _ _
   rw[this]at hm';cases hm'
 .intro E hn' hK a w H β hr
  refine wp_mono (ht E hn' hK a w H β hr) ?_
  rintro e a' w' ⟨z,H',β',⟨ann',st0,rfl,hk0,hΨ⟩,hr0⟩
  obtain⟨_,st',hΦ,hk',he,_,_⟩:=zB hΨ hk0;clear hΨ;obtain⟨H',β',hr'⟩:=he E hn' hK a' w' H' β' hr0;unfold retS at hΦ;split at hΦ
  .rename_i B hl
   split at hΦ
   .rename_i b' l1 hB
    obtain⟨h0,hΦ⟩:=hΦ;subst h0;obtain⟨h1,R',h2,h3⟩:=Af hk' hRk hΦ;refine⟨st'.toA,H',β',⟨h1,⟨R',h2,h3⟩,λk b hb'=>?_⟩,hr'⟩;simp only[q5U,q6F,q6E]at hb';obtain⟨rfl,rfl⟩:=hb';refine⟨sB g t l1,by rw[qJ,hl];exact congrArg some (BJ hB).1,λ_ _ _ h=>h⟩
   .exact hΦ.elim
  .exact hΦ.elim
theorem kcast{p q:Prop}(h:p=q)(x:p):Hold q:=⟨h▸x⟩
theorem I{p q:Prop}(a:p)(b:q):p/\q:=⟨a,b⟩
theorem Sp(q:Prop){a:q->Prop}{b: ¬q->Prop}(f: ∀h,a h)(g: ∀h,b h):(∀h,a h)/\ ∀h,b h:=⟨f,g⟩
end
end
section
section
variable {P:Program}
def Ix(P:Program)(rs:List ResultVar)(k0:Nat)(e:Exit)(st:WSt):Prop:=
 match e with
 | .normal=>(match resV P st rs with|some (.c (.one (.loc k 0)))=>k=k0|_=>False)
 | .ret=>(match resV P st rs with|some (.c (.one (.loc k 0)))=>k=k0|_=>False)
 |_=>False
theorem Ng{rs:List ResultVar}{k0:Nat}{st:WSt}(hk:st.Ok){e:Exit}(h:Ix P rs k0 e st):(e= .normal\/e= .ret)/\BG P st.toA rs=some (WV.c (.one (.loc k0 0))).exp:=by
 cases e with
 |normal=>
  simp only[Ix]at h;split at h
  .rename_i k hR;subst h;exact⟨.inl rfl,(BU hk hR).1⟩
  .exact h.elim
 |ret=>
  simp only[Ix]at h;split at h
  .rename_i k hR;subst h;exact⟨.inr rfl,(BU hk hR).1⟩
  .exact h.elim
 |_=>exact h.elim
def retP(P:Program)(rs:List ResultVar)(k0:Nat)(t:Ty)(s:t.den)(e:Exit)(st:WSt):Prop:=
 match qm st k0 with
 |some (.rig l)=>match reify t l with
  |some (_,s',[])=>s'=s/\Ix P rs k0 e st
  |_=>False
 |_=>False
theorem sigP(hm:P.follows .mixedOrders=true){f:FuncId}{fn:Func}{c:Code}{n:Nat}(d:Nat)(hf:P.funcs[f]?=some fn)(hb:fn.body=some c)(hn:fn.ntmps=n)(hname:fn.name≠ "runtime.NumGoroutine")
  {G:List (Nat×Hint P)}{ts:List Ty}{bs:List Bd}{x:dens ts}(k0:Nat){t:Ty}{b:Bd}{s:t.den}(hx:Bnds ts bs x)(hlen:Nat.ble (jh ts bs x).length n=true)(ann:Ann P)
  (hh:Hold (wp ⟨G,n,[]⟩ c ann (jM (jh ts bs x) []) (λ_ e st=>retP P fn.results.toList k0 t s e st))):vQ P f (argsE ts x) [] (WV.c (.one (.loc d 0))).exp [(d,some (WB.rig [.dt t b s]).exp)]:=by
 have h:=hh.h;have hok:=wH hx;have ht:=Dt hm h (wm hok (λp hp=>by simp at hp));rw[zO]at ht;rw[<-w4 ts bs x];have hexp:(WB.rig [.dt t b s]).exp= .rigid (qO t s):=by show Blk.rigid (WAs.exp _)=_;rw[zi]
 rw[hexp];have hcm: ∀ρ:Nat->Nat,(qO t s).map (Atom.map ρ)=qO t s:=λρ=>C0 ρ _
 refine AZ (λk=>if k=d then k0 else k) hf hb hn hname (by rw[q5J];exact q6a hlen) (λp hp=>by simp at hp) (λp hp=>by simp at hp) (λp hp=>by simp at hp) (λp hp=>by simp at hp) ?_ ?_ ?_
 .intro k hk k' b' hb' hne
  have hk:k∈[d]:=hk;simp only[q5U,q6F]at hk hb';exact absurd (hk.trans hb'.1.symm) hne
 .rintro k (hk|⟨k',b',hb',hm'⟩)
  .left
   have:=WV.men_ids hk;show k∈[d];exact this
  .simp only[q5U,q6F,q6E]at hb'
   obtain⟨rfl,rfl⟩:=hb';simp only[Blk.men,Eg]at hm';cases hm'
 .intro E hn' hK a w H β hr
  refine wp_mono (ht E hn' hK a w H β hr) ?_
  rintro e a' w' ⟨z,H',β',⟨ann',st',rfl,hk',hΦ⟩,hr'⟩
  unfold retP at hΦ;split at hΦ
  .rename_i l hl
   split at hΦ
   .rename_i b' s1 hrf
    obtain⟨h0,hΦ⟩:=hΦ;subst h0;obtain⟨h1,h2⟩:=Ng hk' hΦ;obtain⟨m,e1,i1,_⟩:=vv hrf;have e1:WAs.exp l=m:=by rw[e1];simp[WAs.exp]
    subst e1;refine⟨st'.toA,H',β',⟨h1,⟨_,h2,λβ H v hs=>?_⟩,?_⟩,hr'⟩
    .refine(AV.sat_map (ρ:=λk=>if k=d then k0 else k) (β:=β) (H:=H) (a:=(WV.c (.one (.loc d 0))).exp) (v:=v)).1 ?_
     show(WV.c (.one (.loc (if d=d then k0 else d) 0))).exp.sat β H v;rw[if_pos rfl];exact hs
    .intro k b1 hb1
     simp only[q5U,q6F,q6E]at hb1;obtain⟨rfl,rfl⟩:=hb1;refine⟨.rigid (WAs.exp l),by rw[show(if k=k then k0 else k)=k0 from if_pos rfl,qJ,hl];rfl,?_⟩;intro β w H hh;rw[show(if k=k then k0 else k)=k0 from if_pos rfl]at hh;have hh2:(Blk.rigid (qO t s1)).rep β w H k0:=zM i1 β w H hh;have:=(Blk.rep_map (ρ:=λq=>if q=k then k0 else q) (β:=β) (w:=w) (H:=H) (k:=k) (x:= .rigid (qO t s1))).1 (by simp only[Blk.map,hcm,if_true];simpa using hh2);exact this
   .exact hΦ.elim
  .exact hΦ.elim
def KU(P:Program)(rs:List ResultVar)(k0:Nat)(e:Exit)(st:WSt):Prop:=
 match e with
 | .normal=>(match resV P st rs with|some (.c (.one (.mp k)))=>k=k0|_=>False)
 | .ret=>(match resV P st rs with|some (.c (.one (.mp k)))=>k=k0|_=>False)
 |_=>False
theorem Ps{rs:List ResultVar}{k0:Nat}{st:WSt}(hk:st.Ok){e:Exit}(h:KU P rs k0 e st):(e= .normal\/e= .ret)/\BG P st.toA rs=some (WV.c (.one (.mp k0))).exp:=by
 cases e with
 |normal=>
  simp only[KU]at h;split at h
  .rename_i k hR;subst h;exact⟨.inl rfl,(BU hk hR).1⟩
  .exact h.elim
 |ret=>
  simp only[KU]at h;split at h
  .rename_i k hR;subst h;exact⟨.inr rfl,(BU hk hR).1⟩
  .exact h.elim
 |_=>exact h.elim
def Mr(P:Program)(rs:List ResultVar)(k0:Nat)(L:List KV)(e:Exit)(st:WSt):Prop:=
 match qm st k0 with
 |some (.mp _ L')=>L'=L/\KU P rs k0 e st
 |_=>False
theorem sigM(hm:P.follows .mixedOrders=true){f:FuncId}{fn:Func}{c:Code}{n:Nat}(d:Nat)(hf:P.funcs[f]?=some fn)(hb:fn.body=some c)(hn:fn.ntmps=n)(hname:fn.name≠ "runtime.NumGoroutine")
  {G:List (Nat×Hint P)}{ts:List Ty}{bs:List Bd}{x:dens ts}(k0:Nat){m:Nat}{L:List KV}(hx:Bnds ts bs x)(hlen:Nat.ble (jh ts bs x).length n=true)(ann:Ann P)
  (hh:Hold (wp ⟨G,n,[]⟩ c ann (jM (jh ts bs x) []) (λ_ e st=>Mr P fn.results.toList k0 L e st))):vQ P f (argsE ts x) [] (WV.c (.one (.mp d))).exp [(d,some (WB.mp m L).exp)]:=by
 have h:=hh.h;have hok:=wH hx;have ht:=Dt hm h (wm hok (λp hp=>by simp at hp));rw[zO]at ht;rw[<-w4 ts bs x];refine AZ (λk=>if k=d then k0 else k) hf hb hn hname (by rw[q5J];exact q6a hlen) (λp hp=>by simp at hp) (λp hp=>by simp at hp) (λp hp=>by simp at hp) (λp hp=>by simp at hp) ?_ ?_ ?_
 .intro k hk k' b' hb' hne
  have hk:k∈[d]:=hk;simp only[q5U,q6F]at hk hb';exact absurd (hk.trans hb'.1.symm) hne
 .rintro k (hk|⟨k',b',hb',hm'⟩)
  .left
   have:=WV.men_ids hk;show k∈[d];exact this
  .simp only[q5U,q6F,q6E]at hb'
   obtain⟨rfl,rfl⟩:=hb';cases hm'
 .intro E hn' hK a w H β hr
  refine wp_mono (ht E hn' hK a w H β hr) ?_
  rintro e a' w' ⟨z,H',β',⟨ann',st',rfl,hk',hΦ⟩,hr'⟩
  unfold Mr at hΦ;split at hΦ
  .rename_i m' L' hl
   obtain⟨h0,hΦ⟩:=hΦ;subst h0;obtain⟨h1,h2⟩:=Ps hk' hΦ;refine⟨st'.toA,H',β',⟨h1,⟨_,h2,λβ H v hs=>?_⟩,?_⟩,hr'⟩
   .refine(AV.sat_map (ρ:=λk=>if k=d then k0 else k) (β:=β) (H:=H) (a:=(WV.c (.one (.mp d))).exp) (v:=v)).1 ?_
    show(WV.c (.one (.mp (if d=d then k0 else d)))).exp.sat β H v;rw[if_pos rfl];exact hs
   .intro k b1 hb1
    simp only[q5U,q6F,q6E]at hb1;obtain⟨rfl,rfl⟩:=hb1;refine⟨.mp (mpL L'),by rw[show(if k=k then k0 else k)=k0 from if_pos rfl,qJ,hl];rfl,?_⟩;intro β w H hh;exact(Blk.rep_map (ρ:=λq=>if q=k then k0 else q) (β:=β) (w:=w) (H:=H) (k:=k) (x:= .mp (mpL L'))).1 (by simpa[Blk.map]using hh)
  .exact hΦ.elim
end
end
section
def Cur:(ts:List Ty)->(dens ts->Prop)->Prop
 |[],F=>F ()
 |[t],F=> ∀x:t.den,F x
 |t::u::r,F=> ∀x:t.den,Cur (u::r) λy=>F (x,y)
theorem Cur.all: ∀{ts:List Ty}{F:dens ts->Prop},Cur ts F-> ∀x,F x
 |[],_,h,_=>h
 |[_],_,h,x=>h x
 |_::u::r,_,h,x=>Cur.all (ts:=u::r) (h x.1) x.2
section
variable {P:Program}
structure FI where
 f:FuncId
 ts:List Ty
 bs:List Bd
 pre:dens ts->List Prop
 res:List Bd->dens ts->WV
structure FI.OK (i:FI) (P:Program):Prop where
 sig: ∀x,Bnds i.ts i.bs x->(∀p∈i.pre x,p)->Sig P i.f (argsE i.ts x) (i.res i.bs x).exp
 hexp: ∀b x,(i.res b x).exp=(i.res i.bs x).exp
 okr: ∀b x,Bnds i.ts b x->(∀p∈i.pre x,p)->(i.res b x).ok
def FI.c{i:FI}(h:i.OK P):Ctr P:=⟨i.f,i.ts,i.bs,i.pre,i.res,h.sig,h.hexp,h.okr⟩
theorem mkF(hm:P.follows .mixedOrders=true){f:FuncId}{ts:List Ty}{bs:List Bd}{pre:dens ts->List Prop}{res:List Bd->dens ts->WV}{fn:Func}{c:Code}(n:Nat)(hf:P.funcs[f]?=some fn)(hb:fn.body=some c)(hn:fn.ntmps=n)(hname:fn.name≠ "runtime.NumGoroutine")(G:List (Nat×Hint P))
  (hok:Cur ts λx=> ∀b,Bnds ts b x->(∀p∈pre x,p)->(res b x).ok)
  (h:Cur ts λx=>Bnds ts bs x->(∀p∈pre x,p)-> ∃ann,Hold (wp ⟨G,n,[]⟩ c ann (jM (jh ts bs x) []) (λan e st=>wpre ⟨G,n,[]⟩ 999999 an st λ_ st=>retW P fn.results.toList (res bs x) e st)))
  (hl: ∀x,Nat.ble (jh ts bs x).length n=true:=by exact λ_=>rfl)(hi: ∀x,(res bs x).ids=[]:=by exact λ_=>rfl)(he: ∀b x,(res b x).exp=(res bs x).exp:=by exact λ_ _=>rfl):(FI.mk f ts bs pre res).OK P:=
 ⟨λx hx hp=>(h.all x hx hp).elim λann hh=>sigW hm hf hb hn hname hx (hl x) (hi x) (hok.all x _ hx hp) ann hh,he,λb x=>hok.all x b⟩
structure FO where
 f:FuncId
 ts:List Ty
 bs:List Bd
 pre:dens ts->List Prop
 res:Nat->List Bd->dens ts->WV
 blk:List Bd->dens ts->WB
structure FO.OK (i:FO) (P:Program):Prop where
 sig: ∀d x,Bnds i.ts i.bs x->(∀p∈i.pre x,p)->vQ P i.f (argsE i.ts x) [] (i.res d i.bs x).exp [(d,some (i.blk i.bs x).exp)]
 hexp: ∀d b x,(i.res d b x).exp=(i.res d i.bs x).exp/\(i.blk b x).exp=(i.blk i.bs x).exp
 okr: ∀d b x,Bnds i.ts b x->(∀p∈i.pre x,p)->(i.res d b x).ok/\(i.blk b x).ok
def FO.c{i:FO}(h:i.OK P):CtrO P:=⟨i.f,i.ts,i.bs,i.pre,i.res,i.blk,h.sig,h.hexp,h.okr⟩
def bodyO(ts:List Ty)(bs:List Bd)(fn:Func)(G:List (Nat×Hint P))(n k0:Nat)(c:Code)(R:Nat->WV):WB->dens ts->Prop
 | .gro t b l,x=> ∃ann,Hold (wp ⟨G,n,[]⟩ c ann (jM (jh ts bs x) []) (λ_ e st=>retO P fn.results.toList (R k0) k0 t l e st))
 | .mp m L,x=>R=(λk=> .c (.one (.mp k)))/\ ∃ann,Hold (wp ⟨G,n,[]⟩ c ann (jM (jh ts bs x) []) (λ_ e st=>Mr P fn.results.toList k0 L e st))
 | .rig [.dt t b s],x=>R=(λk=> .c (.one (.loc k 0)))/\ ∃ann,Hold (wp ⟨G,n,[]⟩ c ann (jM (jh ts bs x) []) (λ_ e st=>retP P fn.results.toList k0 t s e st))
 |_,_=>False
theorem bodyO.g{ts:List Ty}{bs:List Bd}{fn:Func}{G:List (Nat×Hint P)}{n k0:Nat}{c:Code}{R:Nat->WV}{t:Ty}{b:Bd}{l:List t.den}{x:dens ts}(ann:Ann P)(h:Hold (wp ⟨G,n,[]⟩ c ann (jM (jh ts bs x) []) (λ_ e st=>retO P fn.results.toList (R k0) k0 t l e st))):bodyO ts bs fn G n k0 c R (.gro t b l) x:=⟨ann,h⟩
theorem bodyO.p{ts:List Ty}{bs:List Bd}{fn:Func}{G:List (Nat×Hint P)}{n k0:Nat}{c:Code}{t:Ty}{b:Bd}{s:t.den}{x:dens ts}(ann:Ann P)(h:Hold (wp ⟨G,n,[]⟩ c ann (jM (jh ts bs x) []) (λ_ e st=>retP P fn.results.toList k0 t s e st))):bodyO ts bs fn G n k0 c (λk=> .c (.one (.loc k 0))) (.rig [.dt t b s]) x:=⟨rfl,ann,h⟩
theorem mkO(hm:P.follows .mixedOrders=true){f:FuncId}{ts:List Ty}{bs:List Bd}{pre:dens ts->List Prop}{res:Nat->List Bd->dens ts->WV}{blk:List Bd->dens ts->WB}{fn:Func}{c:Code}(n k0:Nat)(hf:P.funcs[f]?=some fn)(hb:fn.body=some c)(hn:fn.ntmps=n)(hname:fn.name≠ "runtime.NumGoroutine")(G:List (Nat×Hint P))
  (hl: ∀x,Nat.ble (jh ts bs x).length n=true)(hr: ∀x(ρ:Nat->Nat) k,(res k bs x).exp.map ρ=(res (ρ k) bs x).exp)(hi: ∀x k,(res k bs x).ids=[k])
  (he: ∀d b x,(res d b x).exp=(res d bs x).exp/\(blk b x).exp=(blk bs x).exp)(hok:Cur ts λx=> ∀d b,Bnds ts b x->(∀p∈pre x,p)->(res d b x).ok/\(blk b x).ok)
  (h:Cur ts λx=>Bnds ts bs x->(∀p∈pre x,p)->bodyO ts bs fn G n k0 c (λk=>res k bs x) (blk bs x) x):(FO.mk f ts bs pre res blk).OK P:=by
 refine⟨λd x hx hp=>?_,he,λd b x=>hok.all x d b⟩;have hx:Bnds ts bs x:=hx;show vQ P f (argsE ts x) [] (res d bs x).exp [(d,some (blk bs x).exp)];have hh:=h.all x hx hp;have hok: ∀d b x,Bnds ts b x->(∀p∈pre x,p)->(res d b x).ok/\(blk b x).ok:=λd b x=>hok.all x d b
 have hr:=hr x;have hi:=hi x;have hok:=λk=>(hok k _ x hx hp).1
 revert hh hr hi hok;generalize hB:blk bs x=B;generalize hR:(λk=>res k bs x)=R;have hR2: ∀k,res k bs x=R k:=λk=>congrFun hR k
 simp only[hR2];intro hh hr hi hok;unfold bodyO at hh;split at hh
 .obtain⟨ann,hh⟩:=hh
  exact sigO hm d hf hb hn hname k0 hx (hl x) hok hr hi ann hh
 .obtain⟨rfl,ann,hh⟩:=hh
  exact sigM hm d hf hb hn hname k0 hx (hl x) ann hh
 .obtain⟨rfl,ann,hh⟩:=hh
  exact sigP hm d hf hb hn hname k0 hx (hl x) ann hh
 .exact hh.elim
structure FB where
 f:FuncId
 t:Ty
 tb:Bd
 ts:List Ty
 bs:List Bd
 pre:t.den->dens ts->List Prop
 res:Bd->List Bd->t.den->dens ts->WV
 new:t.den->dens ts->t.den
 nb:Bd->List Bd->Bd
structure FB.OK (i:FB) (P:Program):Prop where
 sig: ∀s x,Bnd i.t i.tb s->Bnds i.ts i.bs x->(∀p∈i.pre s x,p)->vQ P i.f (.c (.one (.loc 100000 0))::argsE i.ts x) [(100000,.rigid (qO i.t s))] (i.res i.tb i.bs s x).exp [(100000,some (.rigid (qO i.t (i.new s x))))]
 hexp: ∀b bb s x,(i.res b bb s x).exp=(i.res i.tb i.bs s x).exp
 hids: ∀s x,(i.res i.tb i.bs s x).ids=[]
 okr: ∀b bb s x,Bnd i.t b s->Bnds i.ts bb x->(∀p∈i.pre s x,p)->(i.res b bb s x).ok/\Bnd i.t (i.nb b bb) (i.new s x)
def FB.c{i:FB}(h:i.OK P):CtrB P:=⟨i.f,i.t,i.tb,i.ts,i.bs,i.pre,i.res,i.new,i.nb,h.sig,h.hexp,λk s x=>FZ (h.hids s x) k,h.okr⟩
theorem mkB'(hm:P.follows .mixedOrders=true){f:FuncId}{t:Ty}{tb:Bd}{ts:List Ty}{bs:List Bd}{pre:t.den->dens ts->List Prop}{res:Bd->List Bd->t.den->dens ts->WV}{new:t.den->dens ts->t.den}{nb:Bd->List Bd->Bd}{fn:Func}{c:Code}(n:Nat)(hf:P.funcs[f]?=some fn)(hb:fn.body=some c)(hn:fn.ntmps=n)(hname:fn.name≠ "runtime.NumGoroutine")(G:List (Nat×Hint P))
  (hl: ∀x,Nat.ble ((jh ts bs x).length+1) n=true)(hi: ∀s x,(res tb bs s x).ids=[])(he: ∀b bb s x,(res b bb s x).exp=(res tb bs s x).exp)
  (hok: ∀s,Cur ts λx=> ∀b bb,Bnd t b s->Bnds ts bb x->(∀p∈pre s x,p)->(res b bb s x).ok/\Bnd t (nb b bb) (new s x))
  (h: ∀s,Cur ts λx=>Bnd t tb s->Bnds ts bs x->(∀p∈pre s x,p)-> ∃ann,Hold (wp ⟨G,n,[100000]⟩ c ann (jM (.c (.one (.loc 100000 0))::jh ts bs x) [(100000,.rig [.dt t tb s])]) (λan e st=>wpre ⟨G,n,[100000]⟩ 999999 an st λ_ st=>retB P fn.results.toList (res tb bs s x) t (new s x) e st))):(FB.mk f t tb ts bs pre res new nb).OK P:=
 ⟨λs x hs hx hp=>((h s).all x hs hx hp).elim λann hh=>sigB hm hf hb hn hname hs hx (hl x) (hi s x) ((hok s).all x _ _ hs hx hp).1 ann hh,he,hi,λb bb s x=>(hok s).all x b bb⟩
structure FV where
 f:FuncId
 g:Bool
 t:Ty
 e:Bd
 m:Nat
 ts:List Ty
 bs:List Bd
 pre:List t.den->Nat->Nat->Nat->dens ts->List Prop
 res:Nat->List Bd->List t.den->Nat->Nat->Nat->dens ts->WV
 new:List t.den->Nat->Nat->Nat->dens ts->List t.den
structure FV.OK (i:FV) (P:Program):Prop where
 sig: ∀l lo n cap x,(∀u∈l,Bnd i.t i.e u)->Bnds i.ts i.bs x->n<=cap->n<=i.m->(∀p∈i.pre l lo n cap x,p)->vQ P i.f (.c (.one (sA i.g i.t.w 100000 lo n cap))::argsE i.ts x) [(100000,sB i.g i.t l)] (i.res 100000 i.bs l lo n cap x).exp [(100000,some (sB i.g i.t (i.new l lo n cap x)))]
 hexp: ∀k b l lo n cap x,(i.res k b l lo n cap x).exp=(i.res k i.bs l lo n cap x).exp
 hren: ∀k l lo n cap x,(i.res 100000 i.bs l lo n cap x).exp.map (ren 100000 k)=(i.res k i.bs l lo n cap x).exp
 okr: ∀k b l lo n cap x,Bnds i.ts b x->(∀u∈l,Bnd i.t i.e u)->n<=cap->n<=i.m->(∀p∈i.pre l lo n cap x,p)->(i.res k b l lo n cap x).ok/\ ∀u∈i.new l lo n cap x,Bnd i.t i.e u
def FV.c{i:FV}(h:i.OK P):CtrS P:=⟨i.f,i.g,i.t,i.e,i.m,i.ts,i.bs,i.pre,i.res,i.new,h.sig,h.hexp,h.hren,h.okr⟩
theorem mkSl(hm:P.follows .mixedOrders=true){f:FuncId}{g:Bool}{t:Ty}{e:Bd}{M:Nat}{ts:List Ty}{bs:List Bd}{pre:List t.den->Nat->Nat->Nat->dens ts->List Prop}{res:Nat->List Bd->List t.den->Nat->Nat->Nat->dens ts->WV}{new:List t.den->Nat->Nat->Nat->dens ts->List t.den}{fn:Func}{c:Code}(n:Nat)(hf:P.funcs[f]?=some fn)(hb:fn.body=some c)(hn:fn.ntmps=n)(hname:fn.name≠ "runtime.NumGoroutine")(G:List (Nat×Hint P))
  (hl: ∀x,Nat.ble ((jh ts bs x).length+1) n=true)(hi: ∀l lo m cap x,(res 100000 bs l lo m cap x).ids.all (Nat.beq 100000)=true)(he: ∀k b l lo m cap x,(res k b l lo m cap x).exp=(res k bs l lo m cap x).exp)
  (hr: ∀k l lo m cap x,(res 100000 bs l lo m cap x).exp.map (ren 100000 k)=(res k bs l lo m cap x).exp)
  (hok: ∀l lo m cap,Cur ts λx=> ∀k b,Bnds ts b x->(∀u∈l,Bnd t e u)->m<=cap->m<=M->(∀p∈pre l lo m cap x,p)->(res k b l lo m cap x).ok/\ ∀u∈new l lo m cap x,Bnd t e u)
  (h: ∀l lo m cap,Cur ts λx=>(∀u∈l,Bnd t e u)->Bnds ts bs x->m<=cap->m<=M->(∀p∈pre l lo m cap x,p)-> ∃ann,Hold (wp ⟨G,n,[100000]⟩ c ann (jM (.c (.one (mkS g t 100000 lo m cap M))::jh ts bs x) [(100000,mkB g t e l)]) (λan e st=>wpre ⟨G,n,[100000]⟩ 999999 an st λ_ st=>retS P fn.results.toList (res 100000 bs l lo m cap x) g t (new l lo m cap x) e st))):(FV.mk f g t e M ts bs pre res new).OK P:=
 ⟨λl lo m cap x hs hx h1 h2 hp=>((h l lo m cap).all x hs hx h1 h2 hp).elim λann hh=>sigS hm hf hb hn hname hs h1 h2 hx (hl x) (hi l lo m cap x) ((hok l lo m cap).all x _ _ hx hs h1 h2 hp).1 ann hh,he,hr,λk b l lo m cap x=>(hok l lo m cap).all x k b⟩
end
end
end Go.Proofs.YtajflbhmdcgkmaaGreat.Sx
namespace Go.Proofs.YtajflbhmdcgkmaaGreat
open Go Go.Proofs Go.ChangeShapes Go.WideShapes Go.ChangeAt Go.RowKit
theorem q4O:ownKnob Tryz.prog.godebug=none:=by kernel_rfl
theorem q1R:laidOutB Tryz.prog=true:=by kernel_rfl
theorem Wh: Tryz.prog.cellsOf 3=1:=by kernel_rfl
theorem HN{H:Sx.Heap}: ∀(l:List Int)(vs:List Value),(∀i,i<l.length->vs[i]?=some (.int .i64 (l.getD i 0)))->Sx.CSats H (l.flatMap (Sx.cellsC (.int .i64))) (vs.take (l.flatMap (Sx.cellsC (.int .i64))).length)
 |[],vs,_=>by simp[Sx.CSats]
 |z::l,[],h=>by have:=h 0 (by simp);simp at this
 |z::l,v::vs,h=>by
  have h0:=h 0 (by simp);have h1:v= .int .i64 z:=by simpa using h0
  have ih:=HN (H:=H) l vs λi hi=>by have:=h (i+1) (by simp;omega);simpa using this
  show Sx.CSats H (.val (.int .i64 z)::l.flatMap (Sx.cellsC (.int .i64))) ((v::vs).take ((l.flatMap (Sx.cellsC (.int .i64))).length+1));rw[List.take_succ_cons];exact⟨⟨h1,rfl⟩,ih⟩
theorem RV{f:FuncId}{l:List Int}(hs:Sx.Sig Tryz.prog f (Sx.argsE [.sl (.int .i64)] l) (Sx.WV.c (.one (.dt .bool .u true))).exp){W:World}{v0:Value}{H:Sx.Heap}(hon:Sx.Heap.On H W)
  (h0:(Sx.flP (l.flatMap (Sx.cellsC (.int .i64))) l.length).p H v0):Calls Tryz.prog f #[v0] W λe W'=>e= .returned (.bool true)/\Below W.heap.size W W':=by
 have h:=hs.2 [v0] W H (λ_=>none) ⟨h0,trivial⟩ (λp hp=>by cases hp) (λp hp=>by cases hp) hon;refine h.mono λe W' hw=>?_
 obtain⟨v,H',β',rfl,hst,hv,_⟩:=hw;have hv2:v= .bool true:=hv.1;refine⟨by rw[hv2],⟨hst.os,hst.tape,hst.output,hst.size,λk hk=>hst.keep k hk (λq hq=>by simp[Sx.kwOf]at hq)⟩⟩
theorem q3i{n:Int}(h:(Lit.int .i64 n).wf=true):n.natAbs<=9223372036854775808:=by
 simp[Lit.wf,IntKind.min,IntKind.max,IntKind.signed,IntKind.bits]at h;omega
theorem RL{H:Type}{enc:TypeId×Value->H}{W:World}{a0:Option Addr}{len cap fuel:Nat}{x:DataW H×List MemPlace}(hf:DataW.trod enc Tryz.prog W 0 (λ_=>true) true fuel 22 [.slice a0 len cap]=some x):
  ∃(l:List Int)(Hh:Sx.Heap),Sx.Heap.On Hh W/\(Sx.flP (l.flatMap (Sx.cellsC (.int .i64))) l.length).p Hh (.slice a0 len cap)/\l.length<=9223372036854775807/\ ∀n∈l,n.natAbs<=9223372036854775808:=by
 rcases open_ints Tryz.underlying22 Tryz.underlying3 Wh hf with⟨hcs,hx⟩|⟨a,len',cap',zs,hcs,_,hl,hm,hz,hx,hcell,hwz⟩
 .simp at hcs
  obtain⟨rfl,rfl,rfl⟩:=hcs;exact⟨[],λ_=>none,(λb cs h=>by cases h),⟨none,0,rfl,Nat.le_refl 0,.inl rfl⟩,by simp,by simp⟩
 .simp at hcs
  obtain⟨rfl,rfl,rfl⟩:=hcs;simp only[if_true]at hz;have hb: ∀n∈zs.take len,n.natAbs<=9223372036854775808:=λn hn=>q3i (hwz n (List.mem_of_mem_take hn))
  have hm2:cap<=9223372036854775807:=hm;have hll:(zs.take len).length=len:=by rw[List.length_take];omega
  by_cases hlen:len=0
  .subst hlen
   exact⟨[],λ_=>none,(λb cs h=>by cases h),⟨some a,cap,rfl,by omega,.inl rfl⟩,by simp,by simp⟩
  .have c0:=hcell 0 (by omega)
   obtain⟨b,off,sp⟩:=a
   have⟨arr,T,fz,hh,hsp⟩: ∃arr T fz,W.heap[b]?=some (.cells arr T fz)/\sp=none:=by
    simp only[Addr.add,if_true,World.cell?]at c0;split at c0
    .rename_i c T fz hh
     refine⟨c,T,fz,hh,?_⟩
     cases sp with
     |none=>rfl
     |some s=>simp at c0
    .cases c0
   subst hsp;refine⟨zs.take len,λq=>if q=b then some arr else none,λq cs h=>?_,⟨some ⟨b,off,none⟩,cap,by rw[hll],by omega,.inr ⟨b,off,arr,rfl,by simp,?_⟩⟩,by omega,hb⟩
   .simp only at h
    split at h
    .rename_i e;subst e;cases h;exact⟨T,fz,hh⟩
    .cases h
   .refine HN _ _ λi hi=>?_
    rw[hll]at hi;have ci:=hcell i (by omega)
    have e1:W.cell? (Addr.add ⟨b,off,none⟩ i)=arr[off+i]?:=by
     by_cases e:i=0
     .subst e;simp[Addr.add,World.cell?,hh]
     .simp[Addr.add,World.cell?,hh,e]
    rw[e1]at ci;rw[List.getElem?_drop,Array.getElem?_toList,ci]
    congr 2
    simp[List.getD_eq_getElem?_getD,hi]
end Go.Proofs.YtajflbhmdcgkmaaGreat
namespace Go.Proofs.YtajflbhmdcgkmaaGreat.Sx
open Go Go.Proofs
set_option linter.unusedVariables false
set_option linter.unusedSimpArgs false
set_option maxRecDepth 20000
set_option maxHeartbeats 4000000
abbrev b0(b:List Bd):Bd:=b.getD 0 .u
abbrev b1(b:List Bd):Bd:=b.getD 1 .u
abbrev b2(b:List Bd):Bd:=b.getD 2 .u
abbrev b3(b:List Bd):Bd:=b.getD 3 .u
theorem Bnds.h1{t:Ty}{b:List Bd}{x:t.den}(h:Bnds [t] b x):Bnd t (b0 b) x:=by
 match b,h with
 |[_],h=>exact h
 |[],h=>exact h.elim
 |_::_::_,h=>exact h.elim
theorem Bnds.h2{t u:Ty}{b:List Bd}{x:t.den}{y:u.den}(h:Bnds [t,u] b (x,y)):Bnd t (b0 b) x/\Bnd u (b1 b) y:=by
 match b,h with
 |[_,_],h=>exact h
 |[],h=>exact h.elim
 |[_],h=>exact h.2.elim
 |_::_::_::_,h=>exact h.2.elim
theorem Bnds.h3{t u v:Ty}{b:List Bd}{x:t.den}{y:u.den}{z:v.den}(h:Bnds [t,u,v] b (x,y,z)):Bnd t (b0 b) x/\Bnd u (b1 b) y/\Bnd v (b2 b) z:=by
 match b,h with
 |[_,_,_],h=>exact h
 |[],h=>exact h.elim
 |[_],h=>exact h.2.elim
 |[_,_],h=>exact h.2.2.elim
 |_::_::_::_::_,h=>exact h.2.2.elim
theorem Bnds.h4{t u v w:Ty}{b:List Bd}{x:t.den}{y:u.den}{z:v.den}{q:w.den}(h:Bnds [t,u,v,w] b (x,y,z,q)):Bnd t (b0 b) x/\Bnd u (b1 b) y/\Bnd v (b2 b) z/\Bnd w (b3 b) q:=by
 match b,h with
 |[_,_,_,_],h=>exact h
 |[],h=>exact h.elim
 |[_],h=>exact h.2.elim
 |[_,_],h=>exact h.2.2.elim
 |[_,_,_],h=>exact h.2.2.2.elim
 |_::_::_::_::_::_,h=>exact h.2.2.2.elim
theorem q3e{ls:List Nat}{e:Nat}(h: ∀u∈ls,Bnd (.nat .u32) (.n e) u)(he:e<=4294967295): ∀u∈ls,u<4294967296:=λu hu=>Nat.lt_succ_of_le (q6e (h u hu) he)
theorem JD{ls:List Nat}(h: ∀u∈ls,Bnd (.nat .u32) (.n 4294967295) u): ∀u∈ls,u<4294967296:=q3e h (q6d _)
theorem ED{ls:List Nat}{m:Nat}(h: ∀u∈ls,u<4294967296)(hl:ls.length<=m):qM (qa ls) (32*m):=by
 refine q6g (vH ls h) ?_;rw[show(4294967296:Nat)=2^32 from rfl,<-Nat.pow_mul];exact q6v (by decide) (q6q _ hl)
theorem G6{x y a b:Nat}(h:qM x a)(k:qM y b):qM (x+y) (max a b+1):=by
 have h:=qd (q6Q a b) h;have k:=qd (q6R a b) k;unfold qM at*;rw[q6x];omega
theorem G7{x y a b:Nat}(h:qM x a)(k:qM y b):qM (x*y) (a+b):=by
 unfold qM at*;rw[q6u];exact Nat.mul_lt_mul'' h k
theorem CH{x y a:Nat}(h:qM x a)(k:y<=x):qM y a:=q6f k h
theorem NK{x y a b:Nat}(h:le2 x a)(k:le2 y b):le2 (x*y) (a+b):=by
 unfold le2 at*;rw[q6u];exact q6p h k
theorem An{x a:Nat}(h:le2 x a):qM x (a+1):=by
 unfold le2 at h;unfold qM
 rw[q6x];have:0<2^a:=q6w (by decide);omega
theorem j0{x a:Nat}(h:qM x a):le2 x a:=q6b h
theorem NO{x y a b:Nat}(h:qM x a)(k:qM y b):qM (Nat.gcd x y) (max a b):=by
 rcases q69 x with e|e
 .subst e;rw[Nat.gcd_zero_left];exact qd (q6R _ _) k
 .exact qd (q6Q _ _) (CH h (Nat.gcd_le_left _ e))
theorem Ja{x b:Nat}(h:Nat.blt x (2^b)=true):qM x b:=by unfold qM;simpa using h
theorem q8{a:WA}(h:a.ok)(k:a.wd=1):(WV.c (.one a)).ok:=⟨h,k⟩
theorem qB{t:Ty}{b:Bd}{x:t.den}(h:Bnd t b x):(WV.c (.agg [.dt t b x])).ok:=v9 h
theorem B7{k:IntKind}{z:Int}:(WC.one (.kn k z)).ok:=⟨trivial,rfl⟩
theorem Be{v:Value}(h:v.oneC=true):(WC.one (.vl v)).ok:=⟨h,rfl⟩
theorem qr:(WV.tup []).ok:=λx hx=>by simp at hx
theorem q9{x:WC}{l:List WC}(h:x.ok)(k:(WV.tup l).ok):(WV.tup (x::l)).ok:=λy hy=>by
 rcases q5O.1 hy with rfl|hy
 .exact h
 .exact k y hy
theorem frzO{P:Program}{f:FuncId}{ts:List Ty}{x:dens ts}{d n w nb:Nat}{t:Ty}{e:Bd}{l:List t.den}(h:vQ P f (argsE ts x) [] (WV.c (.one (.gs d n w nb))).exp [(d,some (WB.gro t e l).exp)])(h0:0<t.w)(hn:n=l.length)(b:Bd):
  Sig P f (argsE ts x) (WV.c (.one (.dt (.sl t) b l))).exp:=by
 subst hn;exact Y2 (cells:=jb t l) (vU t l) h0 (v4 t l).symm h
structure DivC (x y s:Nat):Prop where
 h2:2<=(limbs y).length
 hyx:(limbs y).length<=(limbs x).length
 hs:s<=31
 hV:(limbs (y*2^s)).length=(limbs y).length
 ht:2147483648<=(limbs (y*2^s)).getD ((limbs y).length-1) 0
theorem GW(x n:Nat)(hn:(limbs x).length=n+1):(limbs x).getD n 0=x/4294967296^n:=by
 have h1:=wO (x:=x) (by omega);have h2:=vH ((limbs x).take n) (λu hu=>jr x u (q5T hu));rw[q5L,q6i (by omega)]at h2;rw[hn,Nat.add_sub_cancel]at h1;generalize(limbs x).getD n 0=u at*;rw[h1,Nat.add_mul_div_left _ _ (q6w (by omega)),Nat.div_eq_of_lt h2,q6z]
theorem DivC.mk'{x y:Nat}(h2:2<=(limbs y).length)(hyx:y<=x):DivC x y (32-bl ((limbs y).getD ((limbs y).length-1) 0)):=by
 have hg:=qc y ((limbs y).length-1);have hne:=wS (x:=y) (by omega);have hb:=IV (x:=y) (by omega);have h32:=OF hg;have hp:=Lc hne;generalize hs:32-bl ((limbs y).getD ((limbs y).length-1) 0)=s;have hy0:y≠0:=by rintro rfl;simp[Ao]at h2
 have hm:=Yo y s;rw[if_neg hy0]at hm;have hblV:bl (y*2^s)=32*(limbs y).length:=by omega
 have hV0:y*2^s≠0:=by
  have:=q6s (q6t hy0) (q6w (n:=s) (show 0<2 by omega));omega
 have hlt:=Hy (y*2^s);have hge:=FH hV0;rw[hblV]at hlt hge;have e1:(2:Nat)^(32*(limbs y).length)=4294967296^(limbs y).length:=by rw[Nat.pow_mul]
 have e2:(2:Nat)^(32*(limbs y).length-1)=4294967296^((limbs y).length-1)*2147483648:=by
  rw[show 32*(limbs y).length-1=32*((limbs y).length-1)+31 by omega,q6u,Nat.pow_mul]
 rw[e1]at hlt;rw[e2]at hge;have hn1:(limbs (y*2^s)).length<=(limbs y).length:=G9 hlt
 have hn2:(limbs y).length<=(limbs (y*2^s)).length:=zU (by
  have:=q6q y (q6w (n:=s) (show 0<2 by omega));omega)
 have hn:(limbs (y*2^s)).length=(limbs y).length:=by omega
 refine⟨h2,zU hyx,by omega,hn,?_⟩;rw[GW (y*2^s) ((limbs y).length-1) (by omega),Nat.le_div_iff_mul_le (q6w (by omega)),q6o];exact hge
theorem IN{ls:List Nat}{i:Nat}(h:i+1<ls.length):qa (ls.drop i)=ls.getD i 0+4294967296*(ls.getD (i+1) 0+4294967296*qa (ls.drop (i+2))):=by
 rw[Aj (by omega),Aj (by omega)]
theorem PA{ls:List Nat}{i:Nat}(h:i+2<ls.length):qa (ls.drop i)=ls.getD i 0+4294967296*(ls.getD (i+1) 0+4294967296*(ls.getD (i+2) 0+4294967296*qa (ls.drop (i+3)))):=by
 rw[IN (by omega),Aj (by omega)]
structure DivI (x y s i:Nat) (ls ql:List Nat):Prop where
 hi:i<=(limbs x).length+1-(limbs y).length
 hl:ls.length=(limbs x).length+1
 hu: ∀u∈ls,u<4294967296
 hql:ql.length=(limbs x).length+1-(limbs y).length
 hqu: ∀u∈ql,u<4294967296
 hw:qa ls<4294967296^i*(y*2^s)
 hv:qa ls+qa (ql.drop i)*(4294967296^i*(y*2^s))=x*2^s
theorem DivI.start{x y s:Nat}(c:DivC x y s):DivI x y s ((limbs x).length+1-(limbs y).length) (padL (x*2^s) ((limbs x).length+1)) (List.replicate ((limbs x).length+1-(limbs y).length) 0):=by
 have h2:=c.h2;have hyx:=c.hyx;have hs:=c.hs;refine⟨q6d _,BE _ _,Gc _ _,by simp,rep_lt _,?_,?_⟩
 .rw[Fj x s (by omega)]
  have e1:=GW (y*2^s) ((limbs y).length-1) (by have:=c.hV;omega);have ht:=c.ht;rw[e1,Nat.le_div_iff_mul_le (q6w (by omega))]at ht;have hx:=BT x;unfold nl at hx;have hp:(2:Nat)^s<=2147483648:=q6v (show 0<2 by omega) hs
  have h3:x*2^s<4294967296^(limbs x).length*2147483648:=
   q6g ((Nat.mul_lt_mul_right (q6w (by omega))).2 hx) (q6q _ hp)
  refine q6g h3 (q6e ?_ (q6q _ ht));rw[Nat.mul_left_comm,<-q6u,q6o];exact q6q _ (q6v (by omega) (by omega))
 .rw[Fj x s (by omega),List.drop_eq_nil_of_le (by simp)];simp[qa]
theorem DivI.fin{x y s:Nat}{ls ql:List Nat}(h:DivI x y s 0 ls ql):qa ql=x/y/\qa ls=x%y*2^s:=by
 have hw:=h.hw;have hv:=h.hv;simp only[Nat.pow_zero,Nat.one_mul,q5v]at hw hv;have hp:=q6w (n:=s) (show 0<2 by omega)
 have hd:x*2^s/(y*2^s)=qa ql:=by
  rw[<-hv,Nat.add_mul_div_right _ _ (by omega),Nat.div_eq_of_lt hw,q6z]
 have hm:x*2^s%(y*2^s)=qa ls:=by rw[<-hv,Nat.add_mul_mod_self_right,q6j hw]
 rw[Nat.mul_div_mul_right _ _ hp]at hd;rw[Nat.mul_mod_mul_right]at hm;exact⟨hd.symm,hm.symm⟩
theorem q3J{P W V T D wl vl q:Nat}(hW:W=wl+P*T)(hwl:wl<P)(hV:V=vl+P*D)(hT:T<q*D):W<q*V:=by
 have h1:W<P*(T+1):=by rw[q6m];omega
 have h2:P*(T+1)<=P*(q*D):=q6q _ hT;have h3:q*(P*D)<=q*V:=q6q _ (by omega);rw[Nat.mul_left_comm]at h3;omega
theorem q3K{P W V T D wl vl q:Nat}(hW:W=wl+P*T)(hV:V=vl+P*D)(hvl:vl<P)(hT:q*D<=T)(hq:q-1<=D):(q-1)*V<=W:=by
 by_cases h0:q=0
 .subst h0;simp
 have h1:(q-1)*V<=(q-1)*(P*(D+1)):=q6q _ (by rw[q6m];omega)
 have h2:(q-1)*(D+1)<=T:=by
  have e:q*D=(q-1)*D+D:=by
   rw[<-q6y];congr 1;omega
  rw[q6m];omega
 have h3:=q6q P h2;rw[Nat.mul_left_comm]at h1;omega
theorem T6{B P W T D wl vl X:Nat}(hW:W=wl+P*T)(hw:W<B*(vl+P*D))(hvl:vl<P)(hX:X<=T)(hY:B*(D+1)<=X):W<W:=by
 refine q6g hw ?_;have h0:vl+P*D<=P*(D+1):=by rw[q6m,Nat.mul_one];omega
 refine q6e (q6q B h0) ?_;rw[Nat.mul_left_comm];refine q6e (q6q P (q6e hY hX)) ?_;rw[hW];exact Nat.le_add_left _ _
theorem SJ{A B C r t u2:Nat}(he:A+r=t)(ht:r*C+u2<B):t*C+u2<A*C+B:=by
 rw[<-he,q63];omega
theorem Qx{A B C r t u2:Nat}(he:A+r=t)(ht:B<=r*C+u2):A*C+B<=t*C+u2:=by
 rw[<-he,q63];omega
theorem WD{A B r u0 u1 u2:Nat}(he:A+r=u0*4294967296+u1)(ht:r*4294967296+u2<B):(u0*4294967296+u1)*4294967296+u2<A*4294967296+B:=SJ he ht
theorem SI{A B r u0 u1 u2:Nat}(he:A+r=u0*4294967296+u1)(ht:B<=r*4294967296+u2):A*4294967296+B<=(u0*4294967296+u1)*4294967296+u2:=Qx he ht
structure Win (x y s j:Nat) (ls:List Nat):Prop where
 hj:j+(limbs y).length<(limbs x).length+1
 u0v:ls.getD (j+(limbs y).length) 0<=(limbs (y*2^s)).getD ((limbs y).length-1) 0
 a: ∀q,(ls.getD (j+(limbs y).length) 0*4294967296+ls.getD (j+(limbs y).length-1) 0)*4294967296+ls.getD (j+(limbs y).length-2) 0<
   q*((limbs (y*2^s)).getD ((limbs y).length-1) 0*4294967296+(limbs (y*2^s)).getD ((limbs y).length-2) 0)->qa ls<q*(4294967296^j*(y*2^s))
 b: ∀q,q*((limbs (y*2^s)).getD ((limbs y).length-1) 0*4294967296+(limbs (y*2^s)).getD ((limbs y).length-2) 0)<=
   (ls.getD (j+(limbs y).length) 0*4294967296+ls.getD (j+(limbs y).length-1) 0)*4294967296+ls.getD (j+(limbs y).length-2) 0->
   q-1<=(limbs (y*2^s)).getD ((limbs y).length-1) 0*4294967296+(limbs (y*2^s)).getD ((limbs y).length-2) 0->(q-1)*(4294967296^j*(y*2^s))<=qa ls
 z:qa (ls.drop (j+(limbs y).length+1))=0
theorem DivI.win{x y s j:Nat}{ls ql:List Nat}(c:DivC x y s)(h:DivI x y s (j+1) ls ql):Win x y s j ls:=by
 have h2:=c.h2;have hyx:=c.hyx;have hV:=c.hV;have hi:=h.hi;have hl:=h.hl;have hw:=h.hw;have hu:=h.hu
 suffices K:j+(limbs y).length<(limbs x).length+1/\ls.getD (j+(limbs y).length) 0<=(limbs (y*2^s)).getD ((limbs y).length-1) 0/\(∀q,(ls.getD (j+(limbs y).length) 0*4294967296+ls.getD (j+(limbs y).length-1) 0)*4294967296+ls.getD (j+(limbs y).length-2) 0<q*((limbs (y*2^s)).getD ((limbs y).length-1) 0*4294967296+(limbs (y*2^s)).getD ((limbs y).length-2) 0)->qa ls<q*(4294967296^j*(y*2^s)))/\
   (∀q,q*((limbs (y*2^s)).getD ((limbs y).length-1) 0*4294967296+(limbs (y*2^s)).getD ((limbs y).length-2) 0)<=(ls.getD (j+(limbs y).length) 0*4294967296+ls.getD (j+(limbs y).length-1) 0)*4294967296+ls.getD (j+(limbs y).length-2) 0->q-1<=(limbs (y*2^s)).getD ((limbs y).length-1) 0*4294967296+(limbs (y*2^s)).getD ((limbs y).length-2) 0->(q-1)*(4294967296^j*(y*2^s))<=qa ls)/\qa (ls.drop (j+(limbs y).length+1))=0 from⟨K.1,K.2.1,K.2.2.1,K.2.2.2.1,K.2.2.2.2⟩
 have hg: ∀k,ls.getD k 0<4294967296:=zb (by omega) hu;generalize hn:(limbs y).length=n at*;have hVl:=BT (y*2^s);unfold nl at hVl;rw[hV]at hVl
 --the divisor
 have hv3:=Ay (limbs (y*2^s)) (n-2);rw[qN,IN (by omega),List.drop_eq_nil_of_le (by omega),show n-2+1=n-1 by omega]at hv3;have hvl:=wE (jr (y*2^s)) (i:=n-2) (by omega);simp only[qa,Nat.mul_zero,q64]at hv3;rw[q6i (by omega)]at hv3
 --the window
 have hw3:=Ay ls (j+n-2);rw[PA (by omega),show j+n-2+1=j+n-1 by omega,show j+n-2+2=j+n by omega,show j+n-2+3=j+n+1 by omega,q6i (by omega)]at hw3;have hwl:=wE hu (i:=j+n-2) (by omega)
 have hz:qa (ls.drop (j+n+1))=0:=by
  have e:=Ay ls (j+n+1);rw[q6i (by omega)]at e;rcases q69 (qa (ls.drop (j+n+1)))with h0|h0
  .exact h0
  .exfalso
   have h4:4294967296^(j+1)*(y*2^s)<=4294967296^(j+1)*4294967296^n:=q6q _ (by omega);rw[<-q6u,show j+1+n=j+n+1 by omega]at h4;have h5:4294967296^(j+n+1)*1<=4294967296^(j+n+1)*qa (ls.drop (j+n+1)):=q6q _ h0;omega
 rw[hz,Nat.mul_zero,q64]at hw3;have hg0:=hg (j+n);have hg1:=hg (j+n-1);have hg2:=hg (j+n-2);have hd1:=qc (y*2^s) (n-1);have hd2:=qc (y*2^s) (n-2);generalize ls.getD (j+n) 0=u0 at*;generalize ls.getD (j+n-1) 0=u1 at*;generalize ls.getD (j+n-2) 0=u2 at*;generalize(limbs (y*2^s)).getD (n-1) 0=v1 at*;generalize(limbs (y*2^s)).getD (n-2) 0=v2 at*;have ePj:4294967296^j*4294967296^(n-2)=4294967296^(j+n-2):=by rw[<-q6u];congr 1;omega
 generalize qa (ls.take (j+n-2))=wl at*;generalize hP:4294967296^(j+n-2)=P at*
 have hW:qa ls=wl+P*((u0*4294967296+u1)*4294967296+u2):=by
  rw[hw3];congr 2;omega
 have hVV:4294967296^j*(y*2^s)=4294967296^j*qa ((limbs (y*2^s)).take (n-2))+P*(v1*4294967296+v2):=by
  conv=>lhs;rw[hv3,q6m,<-q6n,ePj]
  congr 2;omega
 have hvP:4294967296^j*qa ((limbs (y*2^s)).take (n-2))<P:=by
  have hpj:0<4294967296^j:=q6w (by omega);rw[<-ePj];exact Nat.mul_lt_mul_of_pos_left hvl hpj
 refine⟨by omega,?_,λq hq=>q3J hW hwl hVV hq,λq hq hq2=>q3K hW hVV hvP hq hq2,hz⟩
 .--the leading limb
  rcases q6h v1 u0 with hlt|hge
  .exfalso
   rw[q6x,q6o (4294967296^j),q6n,hVV]at hw;have hX:(v1+1)*4294967296*4294967296<=(u0*4294967296+u1)*4294967296+u2:=by omega
   have hY:4294967296*(v1*4294967296+v2+1)<=(v1+1)*4294967296*4294967296:=by omega
   exact Nat.lt_irrefl _ (T6 hW hw hvP hX hY)
  .exact hge
structure Est (x y s j:Nat) (ls:List Nat) (q r:Nat):Prop where
 he:q*(limbs (y*2^s)).getD ((limbs y).length-1) 0+r=ls.getD (j+(limbs y).length) 0*4294967296+ls.getD (j+(limbs y).length-1) 0
 hr:r<4294967296
 hq:q<=4294967297
 hw:qa ls<(q+1)*(4294967296^j*(y*2^s))
theorem Est.start{x y s j:Nat}{ls ql:List Nat}(c:DivC x y s)(h:DivI x y s (j+1) ls ql){t:Nat}(ht:t=ls.getD (j+(limbs y).length) 0*4294967296+ls.getD (j+(limbs y).length-1) 0):
  Est x y s j ls (t/(limbs (y*2^s)).getD ((limbs y).length-1) 0) (t%(limbs (y*2^s)).getD ((limbs y).length-1) 0):=by
 have w:=h.win c;have hg: ∀k,ls.getD k 0<4294967296:=zb (by omega) h.hu;have h0:=hg (j+(limbs y).length);have h1:=hg (j+(limbs y).length-1);have h2:=hg (j+(limbs y).length-2);have hd1:=qc (y*2^s) ((limbs y).length-1);have htop:=c.ht;have hu0:=w.u0v;have wa:=w.a;refine⟨?_,?_,?_,wa _ ?_⟩
 .rw[<-ht,q6o];exact Nat.div_add_mod t _
 .exact Nat.lt_trans (q6k _ (by omega)) hd1
 .have:t/(limbs (y*2^s)).getD ((limbs y).length-1) 0<4294967298:=by
   rw[q66 (by omega),ht];have:=q6r 4294967296 hu0;omega
  omega
 .have h5:t+1<=(t/(limbs (y*2^s)).getD ((limbs y).length-1) 0+1)*(limbs (y*2^s)).getD ((limbs y).length-1) 0:=by
   have:=Nat.lt_mul_div_succ t (show 0<(limbs (y*2^s)).getD ((limbs y).length-1) 0 by omega);rw[q6o]at this;omega
  have h6:(t+1)*4294967296<=(t/(limbs (y*2^s)).getD ((limbs y).length-1) 0+1)*(limbs (y*2^s)).getD ((limbs y).length-1) 0*4294967296:=q6r _ h5;rw[<-ht,q6m (t/(limbs (y*2^s)).getD ((limbs y).length-1) 0+1),<-q6n];have:=q6A ((t/(limbs (y*2^s)).getD ((limbs y).length-1) 0+1)*(limbs (y*2^s)).getD ((limbs y).length-2) 0);omega
theorem Est.less{x y s j:Nat}{ls ql:List Nat}{q r:Nat}(c:DivC x y s)(h:DivI x y s (j+1) ls ql)(e:Est x y s j ls q r)
  (ht:4294967296<=q\/r*4294967296+ls.getD (j+(limbs y).length-2) 0<q*(limbs (y*2^s)).getD ((limbs y).length-2) 0):qa ls<q*(4294967296^j*(y*2^s))/\1<=q:=by
 have w:=h.win c
 have hh:qa ls<q*(4294967296^j*(y*2^s)):=by
  rcases ht with ht|ht
  .have hw:=h.hw
   rw[q6x,q6o (4294967296^j),q6n]at hw;exact q6g hw (q6r _ ht)
  .refine w.a q ?_
   have he:=e.he;rw[q6m q,<-q6n];exact WD he ht
 refine⟨hh,?_⟩;rcases q69 q with h0|h0
 .subst h0;simp at hh
 .exact h0
theorem Est.step{x y s j:Nat}{ls ql:List Nat}{q r:Nat}(c:DivC x y s)(h:DivI x y s (j+1) ls ql)(e:Est x y s j ls q r)
  (ht:4294967296<=q\/r*4294967296+ls.getD (j+(limbs y).length-2) 0<q*(limbs (y*2^s)).getD ((limbs y).length-2) 0)
  (hr:r+(limbs (y*2^s)).getD ((limbs y).length-1) 0<4294967296):Est x y s j ls (q-1) (r+(limbs (y*2^s)).getD ((limbs y).length-1) 0):=by
 obtain⟨h1,h2⟩:=e.less c h ht;refine⟨?_,hr,by have:=e.hq;omega,by rw[show q-1+1=q by omega];exact h1⟩;have he:=e.he
 have:q*(limbs (y*2^s)).getD ((limbs y).length-1) 0=(q-1)*(limbs (y*2^s)).getD ((limbs y).length-1) 0+(limbs (y*2^s)).getD ((limbs y).length-1) 0:=by
  rw[<-q6y];congr 1;omega
 omega
structure Dig (x y s j:Nat) (ls:List Nat) (q:Nat):Prop where
 hq:q<4294967296
 hw:qa ls<(q+1)*(4294967296^j*(y*2^s))
 hlo:(q-1)*(4294967296^j*(y*2^s))<=qa ls
theorem Est.fin{x y s j:Nat}{ls ql:List Nat}{q r:Nat}(c:DivC x y s)(h:DivI x y s (j+1) ls ql)(e:Est x y s j ls q r)(hq:q<4294967296)
  (ht:q*(limbs (y*2^s)).getD ((limbs y).length-2) 0<=r*4294967296+ls.getD (j+(limbs y).length-2) 0):Dig x y s j ls q:=by
 have w:=h.win c;refine⟨hq,e.hw,w.b q ?_ ?_⟩
 .have he:=e.he
  rw[q6m q,<-q6n];exact SI he ht
 .have:=c.ht;omega
theorem Est.brk{x y s j:Nat}{ls ql:List Nat}{q r:Nat}(c:DivC x y s)(h:DivI x y s (j+1) ls ql)(e:Est x y s j ls q r)
  (ht:4294967296<=q\/r*4294967296+ls.getD (j+(limbs y).length-2) 0<q*(limbs (y*2^s)).getD ((limbs y).length-2) 0)
  (hr:4294967296<=r+(limbs (y*2^s)).getD ((limbs y).length-1) 0):Dig x y s j ls (q-1):=by
 obtain⟨h1,h2⟩:=e.less c h ht;have w:=h.win c;have he:=e.he;have hd2:=qc (y*2^s) ((limbs y).length-2);have hg: ∀k,ls.getD k 0<4294967296:=zb (by omega) h.hu;have g1:=hg (j+(limbs y).length-1);have hu0:=w.u0v;have wb:=w.b;have htop:=c.ht
 have:q*(limbs (y*2^s)).getD ((limbs y).length-1) 0=(q-1)*(limbs (y*2^s)).getD ((limbs y).length-1) 0+(limbs (y*2^s)).getD ((limbs y).length-1) 0:=by
  rw[<-q6y];congr 1;omega
 generalize(limbs (y*2^s)).getD ((limbs y).length-1) 0=v1 at*;generalize ls.getD (j+(limbs y).length) 0=u0 at*;generalize ls.getD (j+(limbs y).length-1) 0=u1 at*;generalize ls.getD (j+(limbs y).length-2) 0=u2 at*;generalize(limbs (y*2^s)).getD ((limbs y).length-2) 0=v2 at*
 have hq:q-1<4294967296:=by
  rcases q6h (q-1) 4294967296 with h'|h'
  .exact h'
  .exfalso
   have:=q6r v1 h';have:=q6r 4294967296 hu0;omega
 refine⟨hq,by rw[show q-1+1=q by omega];exact h1,wb _ ?_ (by omega)⟩;have h5:(q-1)*v2<=4294967295*4294967295:=q6p (by omega) (by omega);have h6:4294967296*4294967296<=(r+v1)*4294967296:=q6r _ hr;rw[q6m (q-1),<-q6n];omega
theorem MD{u p b:Nat}(hu:u<4294967296)(hp:p<4294967296)(hb:b<=1):
  dif (dif u p) b%4294967296+p+b=u+4294967296*(dif (dif u p) b/9223372036854775808)/\dif (dif u p) b/9223372036854775808<=1:=by
 simp only[DL];omega
theorem wx{a s:Nat}:dif a s<18446744073709551616:=by rw[DL];exact q6k _ (by omega)
structure MsI (y s j q:Nat) (l0:List Nat) (i k b:Nat) (ls:List Nat):Prop where
 hi:i<=(limbs (y*2^s)).length
 hl:ls.length=l0.length
 hu: ∀u∈ls,u<4294967296
 hk:k<4294967296
 hb:b<=1
 hd:ls.drop (j+i)=l0.drop (j+i)
 hv:qa (ls.take (j+i))+4294967296^j*(q*qa ((limbs (y*2^s)).take i))=qa (l0.take (j+i))+4294967296^(j+i)*(k+b)
theorem MsI.start{y s j q:Nat}{l0:List Nat}(hu: ∀u∈l0,u<4294967296):MsI y s j q l0 0 0 0 l0:=⟨by omega,rfl,hu,by omega,by omega,rfl,by simp[qa]⟩
theorem q25{J I JI A q V v A0 k b nl u k' b' B:Nat}(hJI:JI=J*I)(hv:A+J*(q*V)=A0+JI*(k+b))(h:nl+(k+q*v)+b=u+B*k'+B*b'):
  A+JI*nl+J*(q*(V+I*v))=A0+JI*u+JI*B*(k'+b'):=by
 have h1:J*(q*(V+I*v))=J*(q*V)+JI*(q*v):=by
  rw[q6m q,q6m J,hJI,q6n,Nat.mul_left_comm q I v]
 have h2:JI*(nl+(k+q*v)+b)=JI*(u+B*k'+B*b'):=by rw[h]
 simp only[q6m,q6n]at h2 hv h1⊢;omega
theorem MsI.step{y s j q i k b:Nat}{l0 ls:List Nat}(h:MsI y s j q l0 i k b ls)(hi:i<(limbs (y*2^s)).length)(hj:j+i<l0.length)(hq:q<4294967296){t d:Nat}
  (ht:t=k+q*(limbs (y*2^s)).getD i 0)(hd:d=dif (dif (ls.getD (i+j) 0) (t%4294967296)) b):
  MsI y s j q l0 (i+1) (t/4294967296) (d/9223372036854775808) (ls.set (i+j) (d%4294967296))/\t<18446744073709551616:=by
 have hl:=h.hl;have hv1:=qc (y*2^s) i;have hg:ls.getD (i+j) 0<4294967296:=zb (by omega) h.hu _;have hk:=h.hk;have hb:=h.hb;have hm:q*(limbs (y*2^s)).getD i 0<=4294967295*4294967295:=q6p (by omega) (by omega);have htl:t<18446744073709551616:=by omega
 obtain⟨h1,h2⟩:=MD (u:=ls.getD (i+j) 0) (p:=t%4294967296) (b:=b) hg (q6k _ (by omega)) hb;have hij:i+j=j+i:=Nat.add_comm _ _;have hd0:=h.hd;have hgo:ls.getD (j+i) 0=l0.getD (j+i) 0:=by rw[zQ ls,zQ l0,hd0]
 rw[<-hd]at h1 h2;refine⟨⟨by omega,by simp[hl],vF h.hu (q6k _ (by omega)),by omega,h2,?_,?_⟩,htl⟩
 .rw[<-q62,hij,q6W (by omega)]
  have:=congrArg (List.drop 1) hd0;simpa[q5t]using this
 .rw[<-q62,hij,zh (by omega),j6 l0,j6 (limbs (y*2^s)),q6x]
  refine q25 (I:=4294967296^i) (q6u _ _ _) h.hv ?_;rw[hij,hgo]at h1;have:=Nat.mod_add_div t 4294967296;rw[<-ht];omega
theorem MsI.top{y s j q k b:Nat}{l0 ls:List Nat}{n d:Nat}(h:MsI y s j q l0 n k b ls)(hn:(limbs (y*2^s)).length=n)(hj:j+n<l0.length)(hd:d=dif (dif (ls.getD (j+n) 0) k) b):
  qa ((ls.set (j+n) (d%4294967296)).take (j+n+1))+q*(4294967296^j*(y*2^s))=qa (l0.take (j+n+1))+4294967296^(j+n+1)*(d/9223372036854775808)/\
  d/9223372036854775808<=1/\(ls.set (j+n) (d%4294967296)).drop (j+n+1)=l0.drop (j+n+1)/\(ls.set (j+n) (d%4294967296)).length=l0.length/\ ∀u∈ls.set (j+n) (d%4294967296),u<4294967296:=by
 have hl:=h.hl;have hg:ls.getD (j+n) 0<4294967296:=zb (by omega) h.hu _;obtain⟨h1,h2⟩:=MD (u:=ls.getD (j+n) 0) (p:=k) (b:=b) hg h.hk h.hb;have hd0:=h.hd;have hgo:ls.getD (j+n) 0=l0.getD (j+n) 0:=by rw[zQ ls,zQ l0,hd0]
 rw[<-hd]at h1 h2;refine⟨?_,h2,?_,by simp[hl],vF h.hu (q6k _ (by omega))⟩
 .rw[zh (by omega),j6 l0,q6x]
  have hv:=h.hv;have ev:qa ((limbs (y*2^s)).take n)=y*2^s:=by rw[q5Z (l:=limbs (y*2^s)) (by omega),qN]
  rw[ev,Nat.mul_left_comm]at hv;rw[hgo]at h1;have h3:4294967296^(j+n)*(d%4294967296+k+b)=4294967296^(j+n)*(l0.getD (j+n) 0+4294967296*(d/9223372036854775808)):=by rw[h1]
  simp only[q6m,q6n]at h3 hv⊢;omega
 .rw[q6W (by omega)]
  have:=congrArg (List.drop 1) hd0;simpa[q5t]using this
structure AbI (y s j:Nat) (l0:List Nat) (i c:Nat) (ls:List Nat):Prop where
 hi:i<=(limbs (y*2^s)).length
 hl:ls.length=l0.length
 hu: ∀u∈ls,u<4294967296
 hc:c<=1
 hd:ls.drop (j+i)=l0.drop (j+i)
 hv:qa (ls.take (j+i))+4294967296^(j+i)*c=qa (l0.take (j+i))+4294967296^j*qa ((limbs (y*2^s)).take i)
theorem AbI.start{y s j:Nat}{l0:List Nat}(hu: ∀u∈l0,u<4294967296):AbI y s j l0 0 0 l0:=⟨by omega,rfl,hu,by omega,rfl,by simp[qa]⟩
theorem AbI.step{y s j i c:Nat}{l0 ls:List Nat}(h:AbI y s j l0 i c ls)(hi:i<(limbs (y*2^s)).length)(hj:j+i<l0.length){t:Nat}
  (ht:t=c+(ls.getD (i+j) 0+(limbs (y*2^s)).getD i 0)):AbI y s j l0 (i+1) (t/4294967296) (ls.set (i+j) (t%4294967296)):=by
 have hl:=h.hl;have hv1:=qc (y*2^s) i;have hg:ls.getD (i+j) 0<4294967296:=zb (by omega) h.hu _;have hc:=h.hc;have hij:i+j=j+i:=Nat.add_comm _ _;have hd0:=h.hd;have hgo:ls.getD (j+i) 0=l0.getD (j+i) 0:=by rw[zQ ls,zQ l0,hd0]
 refine⟨by omega,by simp[hl],vF h.hu (q6k _ (by omega)),by omega,?_,?_⟩
 .rw[<-q62,hij,q6W (by omega)]
  have:=congrArg (List.drop 1) hd0;simpa[q5t]using this
 .rw[<-q62,hij,zh (by omega),j6 l0,j6 (limbs (y*2^s)),q6x]
  have hv:=h.hv;rw[hij,hgo]at ht
  have e:4294967296^(j+i)*(t%4294967296)+4294967296^(j+i)*4294967296*(t/4294967296)=4294967296^(j+i)*t:=by
   rw[q6n,<-q6m,Nat.mod_add_div]
  have e2:4294967296^j*(4294967296^i*(limbs (y*2^s)).getD i 0)=4294967296^(j+i)*(limbs (y*2^s)).getD i 0:=by rw[<-q6n,<-q6u]
  rw[q62,e,ht,q6m,q6m,q6m (4294967296^j),e2];omega
theorem AbI.top{y s j c:Nat}{l0 ls:List Nat}{n:Nat}(h:AbI y s j l0 n c ls)(hn:(limbs (y*2^s)).length=n)(hj:j+n<l0.length):
  ∃c2,qa ((ls.set (j+n) ((ls.getD (j+n) 0+c%4294967296)%4294967296)).take (j+n+1))+4294967296^(j+n+1)*c2=qa (l0.take (j+n+1))+4294967296^j*(y*2^s)/\
  (ls.set (j+n) ((ls.getD (j+n) 0+c%4294967296)%4294967296)).drop (j+n+1)=l0.drop (j+n+1)/\(ls.set (j+n) ((ls.getD (j+n) 0+c%4294967296)%4294967296)).length=l0.length/\
  ∀u∈ls.set (j+n) ((ls.getD (j+n) 0+c%4294967296)%4294967296),u<4294967296:=by
 have hl:=h.hl;have hc:=h.hc;have hd0:=h.hd;have hgo:ls.getD (j+n) 0=l0.getD (j+n) 0:=by rw[zQ ls,zQ l0,hd0]
 refine⟨(l0.getD (j+n) 0+c)/4294967296,?_,?_,by simp[hl],vF h.hu (q6k _ (by omega))⟩
 .rw[zh (by omega),j6 l0,q6x,q6j (show c<4294967296 by omega),hgo]
  have hv:=h.hv;have ev:qa ((limbs (y*2^s)).take n)=y*2^s:=by rw[q5Z (l:=limbs (y*2^s)) (by omega),qN]
  rw[ev]at hv;have e:=Nat.mod_add_div (l0.getD (j+n) 0+c) 4294967296
  have e2:4294967296^(j+n)*((l0.getD (j+n) 0+c)%4294967296)+4294967296^(j+n)*4294967296*((l0.getD (j+n) 0+c)/4294967296)=4294967296^(j+n)*(l0.getD (j+n) 0+c):=by
   rw[q6n,<-q6m,Nat.mod_add_div]
  rw[q6m]at e2;omega
 .rw[q6W (by omega)]
  have:=congrArg (List.drop 1) hd0;simpa[q5t]using this
theorem DivI.next{x y s j q:Nat}{ls ls' ql:List Nat}(h:DivI x y s (j+1) ls ql)(hl:ls'.length=ls.length)(hu: ∀u∈ls',u<4294967296)(hq:q<4294967296)
  (hval:qa ls'+q*(4294967296^j*(y*2^s))=qa ls)(hlt:qa ls'<4294967296^j*(y*2^s)):DivI x y s j ls' (ql.set j (q%4294967296)):=by
 have hi:=h.hi;have hql:=h.hql;refine⟨by omega,by rw[hl,h.hl],hu,by simp[hql],vF h.hqu (q6k _ (by omega)),hlt,?_⟩;have e1:=Aj (ls:=ql.set j (q%4294967296)) (i:=j) (by simp;omega);have e2:(ql.set j (q%4294967296)).drop (j+1)=ql.drop (j+1):=q6W (by omega)
 have e3:(ql.set j (q%4294967296)).getD j 0=q:=by
  rw[q5y,List.getElem?_set_self (by omega)];simp;omega
 rw[e1,e2,e3,q63,<-q62,hval];have hv:=h.hv;rw[q6x,q6o (4294967296^j),q6n,Nat.mul_left_comm]at hv;rw[q6n];exact hv
theorem BW{ls:List Nat}{n:Nat}(h:qa (ls.drop n)=0):qa (ls.take n)=qa ls:=by
 have:=Ay ls n;rw[h]at this;omega
theorem DivI.even{x y s j q:Nat}{ls ls' ql:List Nat}(c:DivC x y s)(h:DivI x y s (j+1) ls ql)(hd:Dig x y s j ls q)(hl:ls'.length=ls.length)(hu: ∀u∈ls',u<4294967296)
  (hdr:ls'.drop (j+(limbs y).length+1)=ls.drop (j+(limbs y).length+1))
  (hv:qa (ls'.take (j+(limbs y).length+1))+q*(4294967296^j*(y*2^s))=qa (ls.take (j+(limbs y).length+1))):DivI x y s j ls' (ql.set j (q%4294967296)):=by
 have w:=h.win c;have hz:=w.z;have h1:=BW hz;have h2:=BW (ls:=ls') (n:=j+(limbs y).length+1) (by rw[hdr];exact hz);rw[h1,h2]at hv;refine h.next hl hu hd.hq hv ?_;have:=hd.hw;rw[q63,Nat.one_mul]at this;omega
theorem Xn{W W2 W3 Q V BB c2:Nat}(h2:W2+Q+V=W+BB)(hlo:Q<=W)(hW2:W2<BB)(h3:W3+BB*c2=W2+V)(hW3:W3<BB)(hV:V<BB):W3+Q=W/\W3<V:=by
 have hc:c2=1:=by
  rcases q6h c2 1 with h|h
  .have:c2=0:=by omega
   subst this;rw[Nat.mul_zero]at h3;omega
  .rcases q6h 1 c2 with h'|h'
   .have:=q6q BB h'
    omega
   .omega
 subst hc;omega
theorem DivI.odd{x y s j q c2:Nat}{ls ls2 ls3 ql:List Nat}(c:DivC x y s)(h:DivI x y s (j+1) ls ql)(hd:Dig x y s j ls q)(hl2:ls2.length=ls.length)(hu2: ∀u∈ls2,u<4294967296)
  (hdr2:ls2.drop (j+(limbs y).length+1)=ls.drop (j+(limbs y).length+1))
  (hv2:qa (ls2.take (j+(limbs y).length+1))+q*(4294967296^j*(y*2^s))=qa (ls.take (j+(limbs y).length+1))+4294967296^(j+(limbs y).length+1)*1)
  (hl3:ls3.length=ls2.length)(hu3: ∀u∈ls3,u<4294967296)(hdr3:ls3.drop (j+(limbs y).length+1)=ls2.drop (j+(limbs y).length+1))
  (hv3:qa (ls3.take (j+(limbs y).length+1))+4294967296^(j+(limbs y).length+1)*c2=qa (ls2.take (j+(limbs y).length+1))+4294967296^j*(y*2^s)):
  DivI x y s j ls3 (ql.set j ((q-1)%4294967296)):=by
 have w:=h.win c;have hz:=w.z;have hj:=w.hj;have hl:=h.hl;have h1:=BW hz;have h2:=BW (ls:=ls2) (n:=j+(limbs y).length+1) (by rw[hdr2];exact hz);have h3:=BW (ls:=ls3) (n:=j+(limbs y).length+1) (by rw[hdr3,hdr2];exact hz);have b2:=wE hu2 (i:=j+(limbs y).length+1) (by omega);have b3:=wE hu3 (i:=j+(limbs y).length+1) (by omega);have hVl:=BT (y*2^s);unfold nl at hVl;rw[c.hV]at hVl
 have hVB:4294967296^j*(y*2^s)<4294967296^(j+(limbs y).length+1):=by
  refine q6g (Nat.mul_lt_mul_of_pos_left hVl (q6w (by omega))) ?_;rw[<-q6u];exact q6v (by omega) (by omega)
 rw[h1,h2,Nat.mul_one]at hv2;rw[h2,h3]at hv3;rw[h2]at b2;rw[h3]at b3
 have hq1:1<=q:=by
  rcases q69 q with h0|h0
  .subst h0;rw[q6B]at hv2;omega
  .exact h0
 have hlo:=hd.hlo
 have e:q*(4294967296^j*(y*2^s))=(q-1)*(4294967296^j*(y*2^s))+4294967296^j*(y*2^s):=by
  rw[<-q6y];congr 1;omega
 rw[e,<-q62]at hv2;obtain⟨r1,r2⟩:=Xn hv2 hlo b2 hv3 b3 hVB;exact h.next (by omega) hu3 (by have:=hd.hq;omega) r1 r2
theorem Dig.pos{x y s j q:Nat}{ls ls2 ql:List Nat}(c:DivC x y s)(h:DivI x y s (j+1) ls ql)(hl2:ls2.length=ls.length)(hu2: ∀u∈ls2,u<4294967296)
  (hv2:qa (ls2.take (j+(limbs y).length+1))+q*(4294967296^j*(y*2^s))=qa (ls.take (j+(limbs y).length+1))+4294967296^(j+(limbs y).length+1)*1):1<=q:=by
 have w:=h.win c;have hj:=w.hj;have hl:=h.hl;have b2:=wE hu2 (i:=j+(limbs y).length+1) (by omega);rcases q69 q with h0|h0
 .subst h0;rw[q6B,Nat.mul_one]at hv2;omega
 .exact h0
theorem AL: ∀{ls:List Nat},(∀u∈ls,u<4294967296)-> ∀k,ls.getD k 0=qa ls/4294967296^k%4294967296
 |[],_,k=>by simp[qa]
 |u::r,h,0=>by
  have:=h u q5Q;simp only[List.getD_cons_zero,qa,Nat.pow_zero,q67];omega
 |u::r,h,k+1=>by
  have hu:=h u q5Q;rw[List.getD_cons_succ,AL (λv hv=>h v (q5P _ hv)) k,qa,q6x,q6o (4294967296^k),<-Nat.div_div_eq_div_mul]
  congr 2;omega
structure DownI (W s N i:Nat) (ls:List Nat):Prop where
 hi:i<=(limbs W).length
 hN:(limbs W).length<=N
 hl:ls.length=N
 hu: ∀u∈ls,u<4294967296
 hd: ∀k,i<=k->ls.getD k 0=(limbs W).getD k 0
 hv:qa (ls.take i)=(qa ((limbs W).take i)+4294967296^i*((limbs W).getD i 0%2^s))/2^s
theorem DownI.start{W s N:Nat}{ls:List Nat}(hu: ∀u∈ls,u<4294967296)(hl:ls.length=N)(hv:qa ls=W):DownI W s N 0 ls:=by
 refine⟨q6A _,?_,hl,hu,λk _=>?_,?_⟩
 .have:=vH ls hu
  rw[hv,hl]at this;exact G9 this
 .rw[AL hu,AL (jr W),qN,hv]
 .simp only[List.take_zero,qa,Nat.pow_zero,Nat.one_mul,q6z]
  exact(Nat.div_eq_of_lt (q6k _ (q6w (by omega)))).symm
theorem SF{A Bi o r' S C:Nat}(hS:0<S):(A+Bi*o+Bi*(S*C)*r')/S=(A+Bi*(o%S))/S+Bi*(o/S+r'*C):=by
 have h1:A+Bi*o+Bi*(S*C)*r'=(A+Bi*(o%S))+S*(Bi*(o/S+r'*C)):=by
  have h2:Bi*o=Bi*(o%S)+Bi*(S*(o/S)):=by rw[<-q6m,Nat.mod_add_div]
  have h3:S*(Bi*(o/S+r'*C))=Bi*(S*(o/S))+Bi*(S*C)*r':=by
   rw[Nat.mul_left_comm,q6m S,q6m Bi,Nat.mul_left_comm S r' C,q6o r',q6n Bi]
  omega
 rw[h1,Nat.add_mul_div_left _ _ hS]
theorem Dp{s:Nat}(hs:s<=32):(2:Nat)^s*2^(32-s)=4294967296:=by
 rw[<-q6u,show s+(32-s)=32 by omega]
theorem NA{o r' s:Nat}(ho:o<4294967296)(hr:r'<2^s)(hs:s<=32):o/2^s+r'*2^(32-s)<4294967296:=by
 have h1:=Dp hs;have hp:=q6w (n:=s) (show 0<2 by omega)
 have h2:o/2^s<2^(32-s):=by
  rw[q66 hp,q6o];omega
 have h3:(r'+1)*2^(32-s)<=2^s*2^(32-s):=q6r _ hr;rw[q63,Nat.one_mul,h1]at h3;omega
theorem DownI.step{W s N i nv:Nat}{ls:List Nat}(h:DownI W s N i ls)(hs:s<=32)(hi:i<(limbs W).length)(hn:nv=(limbs W).getD i 0/2^s+((limbs W).getD (i+1) 0%2^s)*2^(32-s)):
  DownI W s N (i+1) (ls.set i nv):=by
 have hN:=h.hN;have hl:=h.hl;have hp:=q6w (n:=s) (show 0<2 by omega)
 have hnv:nv<4294967296:=by
  rw[hn];exact NA (qc _ _) (q6k _ hp) hs
 refine⟨hi,hN,by simp[hl],vF h.hu hnv,λk hk=>?_,?_⟩
 .rw[q5y,List.getElem?_set_ne (by omega),<-q5y]
  exact h.hd k (by omega)
 .rw[zh (by omega),h.hv,j6,q6x,<-Dp hs,SF hp,<-hn]
theorem DownI.fin{W s N:Nat}{ls:List Nat}(h:DownI W s N (limbs W).length ls):qa (ls.take (limbs W).length)=W/2^s:=by
 rw[h.hv,q5Y,qN,q5y,q5D (q6d _)];simp
theorem Ju(o s:Nat)(hs:s<=32):o*2^(32-s)%4294967296=(o%2^s)*2^(32-s):=by
 rw[<-Dp hs,Nat.mul_mod_mul_right]
theorem EQ{ls:List Nat}{i a:Nat}(h:i<ls.length):(ls.set i a).getD i 0=a:=by
 rw[q5y,List.getElem?_set_self h];rfl
theorem Dy{ls:List Nat}{i k a:Nat}(h:i≠k):(ls.set i a).getD k 0=ls.getD k 0:=by
 rw[q5y,List.getElem?_set_ne h,<-q5y]
theorem DownI.step1{W s N i:Nat}{ls:List Nat}(h:DownI W s N i ls)(hs:s<=32)(hi:i<(limbs W).length)(hz:s=0\/(limbs W).length<=i+1):DownI W s N (i+1) (ls.set i (ls.getD i 0/2^s)):=by
 refine h.step hs hi ?_;rw[h.hd i (q6d _)]
 have:(limbs W).getD (i+1) 0%2^s=0:=by
  rcases hz with rfl|hz
  .rw[Nat.pow_zero];omega
  .rw[q5y,q5D hz];simp
 rw[this];simp
theorem DownI.step2{W s N i:Nat}{ls:List Nat}(h:DownI W s N i ls)(hs:s<=32)(hi:i<(limbs W).length):
  DownI W s N (i+1) ((ls.set i (ls.getD i 0/2^s)).set i ((ls.set i (ls.getD i 0/2^s)).getD i 0+(ls.set i (ls.getD i 0/2^s)).getD (i+1) 0*2^(32-s)%4294967296)):=by
 have hN:=h.hN;have hl:=h.hl;rw[EQ (by omega),Dy (by omega),List.set_set,Ju _ _ hs];refine h.step hs hi ?_;rw[h.hd i (q6d _),h.hd (i+1) (by omega)]
theorem Wu{s a b:Nat}(hs:s<=32)(ha:a<4294967296)(hb:b<4294967296):a/2^s<2^(32-s)/\a/2^s+b*2^(32-s)%4294967296<4294967296/\b*2^(32-s)%4294967296=(b%2^s)*2^(32-s):=by
 have h1:=Dp hs;have hp:=q6w (n:=s) (show 0<2 by omega);refine⟨?_,?_,Ju _ _ hs⟩
 .rw[q66 hp,q6o];omega
 .rw[Ju _ _ hs];exact NA ha (q6k _ hp) hs
theorem TM(x s:Nat)(h:s<=IntKind.bits .u32):IntKind.u32.wrap ((x:Int)*2^(min ((s:Int).toNat) (IntKind.bits .u32)))=((x*2^s%4294967296:Nat):Int):=by
 rw[q5r,q6i h];have:(x:Int)*2^s=((x*2^s:Nat):Int):=by simp
 rw[this];exact NN _
end Go.Proofs.YtajflbhmdcgkmaaGreat.Sx
