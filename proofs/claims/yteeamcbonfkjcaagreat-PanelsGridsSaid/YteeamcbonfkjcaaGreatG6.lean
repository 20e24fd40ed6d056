/-
Own laws, part 6. No condition.
-/
import Derived.Test.YteeamcbonfkjcaaGreatG5
namespace Go.Proofs.YteeamcbonfkjcaaGreat.Sx
open Go Go.Proofs
set_option linter.unusedVariables false
set_option linter.unusedSimpArgs false
set_option maxRecDepth 20000
set_option maxHeartbeats 4000000
section
section
variable {P:Program}
theorem Nj {op : Op} {ty : TypeId} {ins : List (Operand × AV)} {k : Nat} {b b' : Blk} {R : AV} (hi : BImp k b b')
  (h : ∀ (a : Act) (w : World) (H : Heap) (β : Bm), (∀ p ∈ ins, p.2.sat β H (a.eval p.1)) -> b.rep β w H k -> Heap.On H w ->
   ∃ v, R.sat β H v /\ ∀ dst pos after guard, (execOp a.eval ⟨dst, op, ty, pos, after, guard⟩).run P w = .ok (.value v) w) : OpOk P op ty ins [(k, b)] R [(k, some b')] := by
 intro dst pos after guard a w H β K Q hins hkin _ hon hK;have hr := (hkin (k, b) q6W).1;obtain ⟨v, hv, hrun⟩ := h a w H β hins hr hon;unfold Oper.wp;rw [hrun];refine hK v w H β (by simpa [kwOf, j2, vo, look] using Step.same k hon) hv λk' b1 hb1 => ?_
 simp only [q70, q7L, q7K] at hb1;obtain ⟨rfl, rfl⟩ := hb1;exact hi _ _ _ hr
theorem Pj{t ty:TypeId}{x:Operand}{k off s:Nat}{cs cs':List Atom}{u:Atom}(hs:jl P t=some (false,s))(hl:cs[off]?=some u)(hc:AImps cs cs'):
  OpOk P (.load t x) ty [(x,.c (.one (.loc k off)))] [(k,.rigid cs)] (.c (.one u)) [(k,some (.rigid cs'))]:=
 Nj (zO hc) λa w H β hins hk _=>by
  obtain⟨b,c,hβ,hx⟩:=hins _ q6W;obtain⟨b',c',arr,T,hβ',hb,hsat⟩:=hk;simp only at hβ hx;rw[hβ]at hβ';cases hβ'
  obtain⟨v,hv,hu⟩:=Sats.get off hsat hl;refine⟨v,hu,λ_ _ _ _=>?_⟩
  simp only[execOp,Instr.loadAt,hx,Instr.sureAddr,q7N,q7O,q7M,
   zr hs hb (off:=off) (by simpa using hv)]
def gLF(P:Program):Op->Option Tmp->(Nat->Option WB)->List WV->HR
 | .load ty _,_,bl,[.c (.one (.loc k off))]=>match bl k,jl P ty with
  |some (.rig l),some (false,s)=>match carve l off 1 with
   |some (a,[m],p)=> .ok [] (.c (.one m)) [k] [(k,some (.rig (a++ .un::p)))]
   |_=> .bad
  |_,_=> .bad
 |_,_,_,_=> .bad
def DB:Ext P:=⟨gLF P,by
 intro op dst ty bl vs hl;unfold gLF;split
 .rename_i ty' x k off
  split
  .rename_i l s hbl hs
   split
   .rename_i a m p hc
    intro hv hbo _ kin hk hkb;rw[zF hk hkb hbl];obtain⟨e,l1,l2,o⟩:=vv hc;obtain⟨oa,om,op⟩:=o (hbo k _ hbl);have hm1:(WAs.exp [m]).length=1:=l2;have hme:WAs.exp [m]=m.exp:=by simp[WAs.exp]
    rw[hme]at hm1;have hwd:m.wd=1:=by rw[<-m.exp_len];exact hm1
    obtain⟨u,hu⟩:=RB hm1
    have hat:(WAs.exp l)[off]?=some u:=by
     rw[e,List.getElem?_append_right (by omega),l1,Nat.sub_self,hme,hu];rfl
    have himp:AImps (WAs.exp l) (WAs.exp (a++ .un::p)):=by
     rw[e,BL _ _ _ (.abs unP) rfl,hme,hu];exact wY v4 ⟨λ_ _ _ h=>Atom.sat_one h,v4⟩
    have hmok:m.ok:=om m q6W;refine⟨?_,⟨hmok,hwd⟩,z4 (WAs.ok_app.2 ⟨oa,WAs.ok_cons.2 ⟨trivial,op⟩⟩)⟩;have:=Pj (P:=P) (t:=ty') (ty:=ty) (x:=x) (k:=k) (off:=off) (s:=s) hs hat himp;refine this.weak (λβ H v h=>?_) (E8 λ_ _ _ h=>h);show(AV.c (.one (m.exp.headD (.val (.bool false))))).sat β H v;rw[hu];exact h
   .exact trivial
  .exact trivial
 .exact trivial⟩
end
end
abbrev q5z:FI:=⟨101,[(.pr .rat (.pr .rat (.pr .rat .rat)))],[(.p (.n 268435456) (.p (.n 268435456) (.p (.n 268435456) (.n 268435456))))],λ_=>[],λb z=>(λ(h:Rat×Rat×Rat×Rat)=> .c (.agg [.dt (.pr jj .rat) (.p (bV3 (2*(b0 b).mx+2)) (.n (2*(b0 b).mx+2))) (jw h)])) z⟩
theorem q5A:q5z.OK Tryz.prog:=qB hmix 27 Tryz.func101 rfl rfl (by decide) [(48,.c wR),(51,.c qA)] (λ(h:Rat×Rat×Rat×Rat) b hx hp=>qh (ET (Bnds.h1 hx))) (λ(h:Rat×Rat×Rat×Rat) hx hp=>by
 refine⟨.nil,kcast (by kernel_rfl) ((fp_e h:((h.1/h.2.2.2,h.2.1/h.2.2.2,h.2.2.1/h.2.2.2),h.2.2.2+0)=jw h))⟩)
abbrev CH:Ctr Tryz.prog:=FI.c q5A
abbrev q1U:FO:=⟨100,[(.sl .rat)],[(.s 1048576 (.n 34359738368))],λ_=>[],λk b z=>(λ(q:List Rat)=> .c (.one (.gs k (q.length) 3 ((b0 b).len)))) z,λb z=>(λ(q:List Rat)=> .gro .rat ((b0 b).e) (q)) z⟩
theorem q1V:q1U.OK Tryz.prog:=mkO hmix 23 90004 Tryz.func100 rfl rfl (by decide) [(51,.c qA)] (λ_=>rfl) (λ_ _ _=>rfl) (λ_ _=>rfl) (λ_ _ _=>⟨rfl,rfl⟩) (λ(q:List Rat) k b hx hp=>⟨qa (Bnds.h1 hx).sl.1 rfl,(Bnds.h1 hx).sl.2⟩) (λ(q:List Rat) hx hp=>by
 have hl0:q.length<=1048576:=hx.1
 refine bodyO.g (.h 1 2 (.mk (.gro .rat (.n 68719476736))) (.loop [.s 11 (.nat .i64) (.n 1048576),.g 3 90004 .rat (.n 68719476736) 1048576] (λ((i,o):Nat×List Rat)=>o=q.take i/\i<=q.length) (λ((i,o):Nat×List Rat)=>q.length-i) (λ((i,o):Nat×List Rat)=> .cond (.h 5 4 (.mk (.im .rat (.n 68719476736))) (.nil)) (.nil)))) (kcast (by kernel_rfl) (I (rfl:0=([]:List Rat).length) (I (⟨rfl,q7G _⟩:([]:List Rat)=q.take 0/\0<=q.length) (λ(i:Nat)(o:List Rat)(hb1:HB [.s 11 (.nat .i64) (.n 1048576),.g 3 90004 .rat (.n 68719476736) 1048576] (i,o))(hI:o=q.take i/\i<=q.length)=>have hv4:=(show i<=1048576 from hb1.1);have hv5:=(show o.length<=1048576 from hb1.2.1);have hIi:=hI.2;have hol:=(show o.length=i from by rw[hI.1,q6R];omega);Sp (i<q.length) (λh2=>I (?_:i<q.length) (I (?_:o.length=o.length) (I (show(i+1)<=1048576 by omega:Bnd (.nat .i64) (.n 1048576) (i+1)) (I (by(try simp only[q6M,q6N,q6Q])<;>omega:o.length+[(q.getD i 0)+0].length=(o++[(q.getD i 0)+0]).length) (I (by(try simp only[q6M,q6N,q6Q])<;>omega:o.length+[(q.getD i 0)+0].length<=1048576) (q6q (⟨by rw[hI.1,Rat.add_zero,wT (d:=0) (by omega)],by omega⟩:(o++[(q.getD i 0)+0])=q.take (i+1)/\(i+1)<=q.length) (?_:q.length-(i+1)<q.length-i))))))) (λh3=>q6q (by rw[hI.1,q75 (by omega)]:o=q) ((?_:o.length=q.length)))))))<;>omega)
abbrev Ep:CtrO Tryz.prog:=FO.c q1V
abbrev RL:FI:=⟨102,[(.pr (.int .i64) (.pr (.sl .rat) (.sl (.pr (.pr .rat (.pr .rat .rat)) .rat))))],[(.p (.n 8) (.p (.s 1048576 (.n 34359738368)) (.s 1048576 (.p (.p (.n 262144) (.p (.n 262144) (.n 262144))) (.n 262144)))))],λz=>(λ(c:Int×List Rat×List ((Rat×Rat×Rat)×Rat))=>[qM c.2.1 c.1=0,0<=c.1,c.2.2.length+c.1.toNat+1=c.2.1.length]) z,λb z=> .c (.one (.dt .bool .u true))⟩
theorem RM:RL.OK Tryz.prog:=qB hmix 20 Tryz.func102 rfl rfl (by decide) [(82,.c Ef),(149,.c j6)] (λ(c:Int×List Rat×List ((Rat×Rat×Rat)×Rat)) b hx hp=>qa trivial rfl) (λ(c:Int×List Rat×List ((Rat×Rat×Rat)×Rat)) hx hp=>by
 have hp0:qM c.2.1 c.1=0:=hp _ (q6W);have hp1:0<=c.1:=hp _ (q6V _ (q6W));have hp2:c.2.2.length+c.1.toNat+1=c.2.1.length:=hp _ (q6V _ (q6V _ (q6W)))
 refine⟨.cond (.nil) (.dead),kcast (by kernel_rfl) (Sp (qM c.2.1 c.1=0) (λh1=>(decide_eq_true (by omega):decide (((c.2.2.length:Nat):Int)=((c.2.1.length:Nat):Int) -c.1-1)=true)) (λh2=>(absurd hp0 h2:False)))⟩)
abbrev RK:Ctr Tryz.prog:=FI.c RM
abbrev q1S:FI:=⟨103,[(.pr (.int .i64) (.pr (.sl .rat) (.sl (.pr (.pr .rat (.pr .rat .rat)) .rat))))],[(.p (.n 8) (.p (.s 1048576 (.n 16384)) (.s 1048576 (.p (.p (.n 262144) (.p (.n 262144) (.n 262144))) (.n 262144)))))],λ_=>[],λb z=>(λ(c:Int×List Rat×List ((Rat×Rat×Rat)×Rat))=> .c (.agg [.dt jm (.p (b0 b).l (.p (b0 b).r.l (.s (b0 b).r.r.len (bF4 (2*(b0 b).r.r.e.mx))))) (spC c)])) z⟩
theorem q1T:q1S.OK Tryz.prog:=qB hmix 27 Tryz.func103 rfl rfl (by decide) [(127,.c Hx)] (λ(c:Int×List Rat×List ((Rat×Rat×Rat)×Rat)) b hx hp=>qh (q60 (Bnds.h1 hx))) (λ(c:Int×List Rat×List ((Rat×Rat×Rat)×Rat)) hx hp=>by
 have hcl:c.2.2.length<=1048576:=hx.2.2.1
 refine⟨.loop [.s 14 (.nat .i64) (.n 1048576),.ex (gboX 3 90001 [(.dt (.int .i64) (.n 8) c.1),(.dt (.sl .rat) (.s 1048576 (.n 16384)) c.2.1)] [] (.pr .rat (.pr .rat (.pr .rat .rat))) (.p (.n 524288) (.p (.n 524288) (.p (.n 524288) (.n 524288)))) 1048576)] (λ((i,l):Nat×List (Rat×Rat×Rat×Rat))=>l=(c.2.2.take i).map v7/\i<=c.2.2.length) (λ((i,l):Nat×List (Rat×Rat×Rat×Rat))=>c.2.2.length-i) (λ((i,l):Nat×List (Rat×Rat×Rat×Rat))=> .cond (.h 5 1 (.ext DB) (.h 5 4 (.mk (.im (.pr .rat (.pr .rat (.pr .rat .rat))) (.p (.n 524288) (.p (.n 524288) (.p (.n 524288) (.n 524288)))))) (.nil))) (.pre 7 (.frz 90001 true []) (.nil))),kcast (by kernel_rfl) (I (rfl:([(.dt (.int .i64) (.n 8) c.1),(.dt (.sl .rat) (.s 1048576 (.n 16384)) c.2.1)]:List WA)=[(.dt (.int .i64) (.n 8) c.1),(.dt (.sl .rat) (.s 1048576 (.n 16384)) c.2.1)]) (I (rfl:([]:List WA)=[]) (I (rfl:0=([]:List (Rat×Rat×Rat×Rat)).length) (I (⟨rfl,q7G _⟩:([]:List (Rat×Rat×Rat×Rat))=(c.2.2.take 0).map v7/\0<=c.2.2.length) (λ(i:Nat)(l:List (Rat×Rat×Rat×Rat))(hb1:HB [.s 14 (.nat .i64) (.n 1048576),.ex (gboX 3 90001 [(.dt (.int .i64) (.n 8) c.1),(.dt (.sl .rat) (.s 1048576 (.n 16384)) c.2.1)] [] (.pr .rat (.pr .rat (.pr .rat .rat))) (.p (.n 524288) (.p (.n 524288) (.p (.n 524288) (.n 524288)))) 1048576)] (i,l))(hI:l=(c.2.2.take i).map v7/\i<=c.2.2.length)=>have hv4:=(show i<=1048576 from hb1.1);have hv5:=(show l.length<=1048576 from hb1.2.1.1);have hIi:=hI.2;have hll:=(show l.length=i by rw[hI.1,q6P,q6R];omega);Sp (i<c.2.2.length) (λh2=>I (?_:i<c.2.2.length) (I (?_:l.length=l.length) (I (show(i+1)<=1048576 by omega:Bnd (.nat .i64) (.n 1048576) (i+1)) (I (rfl:([(.dt (.int .i64) (.n 8) c.1),(.dt (.sl .rat) (.s 1048576 (.n 16384)) c.2.1)]:List WA)=[(.dt (.int .i64) (.n 8) c.1),(.dt (.sl .rat) (.s 1048576 (.n 16384)) c.2.1)]) (I (rfl:([]:List WA)=[]) (I (by(try simp only[q6M,q6N,q6Q])<;>omega:l.length+[zg (c.2.2.getD i ((0,(0,0)),0))].length=(l++[zg (c.2.2.getD i ((0,(0,0)),0))]).length) (I (by(try simp only[q6M,q6N,q6Q])<;>omega:l.length+[zg (c.2.2.getD i ((0,(0,0)),0))].length<=1048576) (q6q (⟨map_s (by omega) hI.1,by omega⟩:l++[zg (c.2.2.getD i ((0,(0,0)),0))]=(c.2.2.take (i+1)).map v7/\(i+1)<=c.2.2.length) (?_:c.2.2.length-(i+1)<c.2.2.length-i))))))))) (λh3=>I (?_:l.length=l.length) ((q3a hI.1 h3:(c.1,c.2.1,l)=spC c))))))))⟩<;>omega)
abbrev q1R:Ctr Tryz.prog:=FI.c q1T
abbrev RH:FI:=⟨54,[(.pr (.int .i64) (.pr (.sl .rat) (.sl (.pr (.pr .rat (.pr .rat .rat)) .rat)))),.rat],[(.p (.n 8) (.p (.s 1048576 (.n 16384)) (.s 1048576 (.p (.p (.n 262144) (.p (.n 262144) (.n 262144))) (.n 262144))))),(.n 16384)],λz=>(λ(c:Int×List Rat×List ((Rat×Rat×Rat)×Rat))(t:Rat)=>[EvC c t,IpO c.2.1 c.1.toNat,qM c.2.1 c.1=0]) z.1 z.2,λb z=>(λ(c:Int×List Rat×List ((Rat×Rat×Rat)×Rat))(t:Rat)=> .tup [.agg [.dt jj (bV3 67108868) (evV c t)],.one (.dt (.int .i64) (.n 7) (jv c.2.1 t))]) z.1 z.2⟩
theorem RI:RH.OK Tryz.prog:=qB hmix 26 Tryz.func54 rfl rfl (by decide) [(101,.c CH),(102,.c RK),(103,.c q1R),(104,.c AB)] (λ(c:Int×List Rat×List ((Rat×Rat×Rat)×Rat))(t:Rat) b hx hp=>qc (qh (Jd (hp _ (q6W)))) (qc (qa (Bg _ t) rfl) qy)) (λ(c:Int×List Rat×List ((Rat×Rat×Rat)×Rat))(t:Rat) hx hp=>by
 have hp0:EvC c t:=hp _ (q6W);have hp1:IpO c.2.1 c.1.toNat:=hp _ (q6V _ (q6W));have hp2:qM c.2.1 c.1=0:=hp _ (q6V _ (q6V _ (q6W)))
 refine⟨.cond (.dead) (.nil),kcast (by kernel_rfl) (I (hp2:qM c.2.1 c.1=0) (I (hp0.d0:0<=c.1) (I (hp0.pl:c.2.2.length+c.1.toNat+1=c.2.1.length) (Sp ((!true)=true) (λh1=>(absurd h1 (by decide):False)) (λh2=>I (PQ hp0 hp1:SpO (spC c) t) (Sp (jv (spC c).2.1 t≠0) (λh3=>q6q (T7 (c:=c) h3:(0,0,0)=evV c t) (rfl:jv (spC c).2.1 t=jv c.2.1 t)) (λh4=>q6q (q4G h4:(jw (evS (spC c) t)).1=evV c t) (GW (Ai h4):0=jv c.2.1 t))))))))⟩)
abbrev RG:Ctr Tryz.prog:=FI.c RI
def jS(s:j4)(f:Bool):ju:=(if f=true then((Af s).1,(Af s).2.1,0)else Af s,((1+Int.tmod (qd (zn s) 3) 3:Int):Rat))
def AS(s:j4):j4:=qb (zn s)
theorem I9(s:j4)(f:Bool):Bnd qr (jK 5) (jS s f):=by
 refine⟨?_,?_⟩
 .have:=KK s
  show Bnd jj (bV3 5) (if f=true then _ else _);split
  .exact⟨this.1,this.2.1,qY _⟩
  .exact this
 .have h:(1+Int.tmod (qd (zn s) 3) 3).natAbs<=4:=by
   have:=Int.natAbs_tmod (qd (zn s) 3) 3;have:(Int.tmod (qd (zn s) 3) 3).natAbs=(qd (zn s) 3).natAbs%3:=this;omega
  exact qE (Au h) (by decide)
theorem Md{s:j4}{b:Bd}(h:Bnd vm b s):Bnd vm (.p b.l (.n (max b.r.nb b.l.len))) (AS s):=z5 (KJ h)
section
theorem EV{x y:Rat}(h:y≠0):x/y*y=x:=Rat.div_mul_cancel h
def HZ(m:Nat)(t:Rat):Prop:= ∃z:Int,t*2=(z:Rat)/\z.natAbs<=m
theorem HZ.le{m k:Nat}{t:Rat}(h:HZ m t)(e:m<=k):HZ k t:=by obtain⟨z,a,b⟩:=h;exact⟨z,a,by omega⟩
theorem HZ.bnd{t:Rat}(h:HZ 40 t):Bnd .rat (.n 6) t:=by
 obtain⟨z,a,b⟩:=h;have e2:((2:Int):Rat)=2:=rfl
 have e:t=(z:Rat)/((2:Int):Rat):=by
  have:=EV (x:=(z:Rat)) (y:=((2:Int):Rat)) (by rw[e2];decide);rw[e2]at this⊢;generalize(z:Rat)/2=u at*;grind
 rw[e];exact qE (zZ (n:=z) (d:=2) (b:=40) (c:=2) b (by decide)) (by decide)
def addT(t:Rat)(s:j4):Rat:=t+((1+qd s 3:Int):Rat)/((1+qd (qb s) 2:Int):Rat)
theorem HZ.addT{m:Nat}{t:Rat}(h:HZ m t)(s:j4):HZ (m+6) (addT t s):=by
 obtain⟨z,a,b⟩:=h;have h1:=jT s (m:=3) (by omega);have h2:=jT (qb s) (m:=2) (by omega);unfold Sx.addT;have c:1+qd (qb s) 2=1\/1+qd (qb s) 2=2:=by omega
 generalize qd s 3=u at*;generalize 1+qd (qb s) 2=e at*
 have e1:((1:Int):Rat)=1:=rfl;have e2:((2:Int):Rat)=2:=rfl;rcases c with rfl|rfl
 .refine⟨z+2*(1+u),?_,by omega⟩
  have:=EV (x:=((1+u:Int):Rat)) (y:=((1:Int):Rat)) (by rw[e1];decide);rw[e1]at this⊢;generalize((1+u:Int):Rat)/1=q at*;rw[Rat.intCast_add,Rat.intCast_mul,<-a,e2];grind
 .refine⟨z+(1+u),?_,by omega⟩
  have:=EV (x:=((1+u:Int):Rat)) (y:=((2:Int):Rat)) (by rw[e2];decide);rw[e2]at this⊢;generalize((1+u:Int):Rat)/2=q at*;rw[Rat.intCast_add,<-a];grind
theorem HZ.one{m:Nat}{t:Rat}(h:HZ m t):HZ (m+2) (t+((1:Int):Rat)):=by
 obtain⟨z,a,b⟩:=h;refine⟨z+2,?_,by omega⟩;have e1:((1:Int):Rat)=1:=rfl;have e2:((2:Int):Rat)=2:=rfl;rw[Rat.intCast_add,<-a,e1,e2];grind
abbrev KnT:=List Rat×Rat×j4
def knS(d:Int)(x:KnT):KnT:=
 if(x.1.length:Int)=d+1 then(x.1++[addT x.2.1 x.2.2],addT x.2.1 x.2.2,qb (qb x.2.2))
 else if 0<qd x.2.2 3\/x.2.1=x.1.getD ((x.1.length:Int) -d).toNat 0 then(x.1++[addT x.2.1 (qb x.2.2)],addT x.2.1 (qb x.2.2),qb (qb (qb x.2.2)))
 else(x.1++[x.2.1],x.2.1,qb x.2.2)
def knN(d:Int):Nat->KnT->KnT
 |0,x=>x
 |n+1,x=>knN d n (knS d x)
def kn0(d:Int)(s:j4):KnT:=(List.replicate (d+1).toNat ((qd s 4-2:Int):Rat),((qd s 4-2:Int):Rat),qb (qb s))
def knR(d inner:Int)(s:j4):KnT:=knN d (qd (qb s) (inner+1)).toNat (kn0 d s)
def js(d inner:Int)(s:j4):List Rat:=(knR d inner s).1++List.replicate (d+1).toNat ((knR d inner s).2.1+((1:Int):Rat))
def jY(d inner:Int)(s:j4):j4:=(knR d inner s).2.2
structure KnI (m n:Nat) (x:KnT):Prop where
 l:x.1.length<=n
 t:HZ m x.2.1
 k: ∀y∈x.1,HZ m y
theorem KnI.step{m n:Nat}{x:KnT}(h:KnI m n x)(d:Int):KnI (m+6) (n+1) (knS d x):=by
 obtain⟨hl,ht,hk⟩:=h
 have app: ∀t:Rat,HZ (m+6) t-> ∀u,KnI (m+6) (n+1) (x.1++[t],t,u):=λt q u=>by
  refine⟨by simp only[q6M,q6N,q6Q];omega,q,λy hy=>?_⟩;rcases q6T.1 hy with hy|hy
  .exact(hk y hy).le (by omega)
  .rw[q70.1 hy];exact q
 unfold knS;split
 .exact app _ (ht.addT _) _
 .split
  .exact app _ (ht.addT _) _
  .exact app _ (ht.le (by omega)) _
theorem KnI.all{d:Int}: ∀{k m n:Nat}{x:KnT},KnI m n x->KnI (m+6*k) (n+k) (knN d k x)
 |0,m,n,x,h=>h
 |k+1,m,n,x,h=>by
  have:=(h.step d).all (d:=d) (k:=k);rw[show m+6*(k+1)=m+6+6*k by omega,show n+(k+1)=n+1+k by omega];exact this
theorem KnI.le{m n m' n':Nat}{x:KnT}(h:KnI m n x)(a:m<=m')(b:n<=n'):KnI m' n' x:=⟨q7k h.l b,h.t.le a,λy hy=>(h.k y hy).le a⟩
section
variable {d:Int} {k:List Rat} {t:Rat} {u:j4}
theorem Tn(h:(k.length:Int)=d+1):knS d (k,t,u)=(k++[addT t u],addT t u,qb (qb u)):=if_pos h
theorem To(h: ¬(k.length:Int)=d+1)(c:0<qd u 3\/t=k.getD ((k.length:Int) -d).toNat 0):knS d (k,t,u)=(k++[addT t (qb u)],addT t (qb u),qb (qb (qb u))):=(if_neg h).trans (if_pos c)
theorem q5o(h: ¬(k.length:Int)=d+1)(c: ¬0<qd u 3)(c2: ¬t=k.getD ((k.length:Int) -d).toNat 0):knS d (k,t,u)=(k++[t],t,qb u):=(if_neg h).trans (if_neg (not_or.2 ⟨c,c2⟩))
end
theorem M3(d:Int)(x:KnT):(knS d x).1.length=x.1.length+1:=by
 unfold knS;(repeat' split)<;>simp
theorem F7{d m:Int}{x y Z:KnT}(hm:0<m)(hJ:knN d m.toNat x=Z/\0<=m/\m<=4/\KnI (4+6*(4-m).toNat) (10-m.toNat) x/\d+1<=(x.1.length:Int))(e:knS d x=y):
  knN d (m-1).toNat y=Z/\0<=m-1/\m-1<=4/\KnI (4+6*(4-(m-1)).toNat) (10-(m-1).toNat) y/\d+1<=(y.1.length:Int):=by
 obtain⟨h1,h2,h3,h4,h5⟩:=hJ;rw[show m.toNat=(m-1).toNat+1 by omega,knN,e]at h1;have hl:=M3 d x;rw[e]at hl;exact⟨h1,by omega,by omega,e▸(h4.step d).le (by omega) (by omega),by omega⟩
theorem N5(d:Int)(s:j4):KnI 4 (d+1).toNat (kn0 d s):=by
 have h1:=jT s (m:=4) (by omega)
 have hz:HZ 4 ((qd s 4-2:Int):Rat):=by
  refine⟨2*(qd s 4-2),?_,by omega⟩;rw[Rat.intCast_mul];have e2:((2:Int):Rat)=2:=rfl
  rw[e2];grind
 refine⟨by simp[kn0],hz,λy hy=>?_⟩;rw[List.eq_of_mem_replicate hy];exact hz
theorem q5n{d inner:Int}(s:j4)(h0:0<=inner)(h4:inner<=4):KnI 28 ((d+1).toNat+4) (knR d inner s):=by
 have h:=jT (qb s) (m:=inner+1) (by omega);have:=(N5 d s).all (d:=d) (k:=(qd (qb s) (inner+1)).toNat);refine⟨q7k this.l (by omega),this.t.le (by omega),λy hy=>(this.k y hy).le (by omega)⟩
theorem FY{d inner:Int}(s:j4)(hd:d<=5)(h0:0<=inner)(h4:inner<=4):Bnd (.sl .rat) (.s 16 (.n 6)) (js d inner s):=by
 have h:=q5n (d:=d) s h0 h4;unfold js;refine⟨by have:=h.l;simp only[q6M,List.length_replicate];omega,λy hy=>?_⟩;rcases q6T.1 hy with hy|hy
 .exact((h.k y hy).le (by decide)).bnd
 .rw[List.eq_of_mem_replicate hy]
  obtain⟨z,a,b⟩:=h.t;refine HZ.bnd ⟨z+2,?_,by omega⟩;have e1:((1:Int):Rat)=1:=rfl;have e2:((2:Int):Rat)=2:=rfl;rw[Rat.intCast_add,<-a,e1,e2];grind
theorem q5p{d:Int}{x:KnT}{b:Bd}(h:Bnd vm (.p b.l (.n (max b.r.nb b.l.len))) x.2.2):Bnd vm (.p b.l (.n (max b.r.nb b.l.len))) (knS d x).2.2:=by
 unfold knS;split
 .exact z5 (b:=b) (z5 (b:=b) h)
 .split
  .exact z5 (b:=b) (z5 (b:=b) (z5 (b:=b) h))
  .exact z5 (b:=b) h
theorem Tm{d:Int}{b:Bd}: ∀{n:Nat}{x:KnT},Bnd vm (.p b.l (.n (max b.r.nb b.l.len))) x.2.2->Bnd vm (.p b.l (.n (max b.r.nb b.l.len))) (knN d n x).2.2
 |0,x,h=>h
 |n+1,x,h=>Tm (x:=knS d x) (q5p (d:=d) h)
theorem FX{d inner:Int}{s:j4}{b:Bd}(h:Bnd vm b s):Bnd vm (.p b.l (.n (max b.r.nb b.l.len))) (jY d inner s):=
 Tm (x:=kn0 d s) (z5 (b:=b) (BP (b:=b) h))
theorem GI{x:j4}{b:Bd}(h:Bnd vm (.p (Bd.p b.l (.n (max b.r.nb b.l.len))).l (.n (max (Bd.p b.l (.n (max b.r.nb b.l.len))).r.nb (Bd.p b.l (.n (max b.r.nb b.l.len))).l.len))) x):Bnd vm (.p b.l (.n (max b.r.nb b.l.len))) x:=by
 simpa[Bd.l,Bd.r,Bd.nb,Nat.max_assoc]using h
theorem RJ{s:j4}{b:Bd}(h:Bnd vm (.p b.l (.n (max b.r.nb b.l.len))) s):Bnd vm (.p b.l (.n (max b.r.nb b.l.len))) (AS s):=GI (Md h)
theorem R9{d inner:Int}{s:j4}{k:List Rat}{i:Nat}(hI:k=List.replicate i ((qd s 4-2:Int):Rat)/\(i:Int)<=d+1)(hi: ¬(i:Int)<=d)(hd:d<=5)(h0:0<=inner)(h4:inner<=4):
  knN d (qd (qb s) (inner+1)).toNat (k,((qd s 4-2:Int):Rat),qb (qb s))=knR d inner s/\0<=qd (qb s) (inner+1)/\qd (qb s) (inner+1)<=4/\KnI (4+6*(4-qd (qb s) (inner+1)).toNat) (10-(qd (qb s) (inner+1)).toNat) (k,((qd s 4-2:Int):Rat),qb (qb s))/\d+1<=(k.length:Int):=by
 have h:=jT (qb s) (m:=inner+1) (by omega);have e:(k,((qd s 4-2:Int):Rat),qb (qb s))=kn0 d s:=by unfold kn0;rw[hI.1,show(d+1).toNat=i by omega]
 have hl:k.length=i:=by rw[hI.1,List.length_replicate]
 rw[e];exact⟨rfl,h.1,by omega,(N5 d s).le (by omega) (by omega),by omega⟩
theorem q1e{d inner m:Int}{s u:j4}{k:List Rat}{t:Rat}{P:Prop}(hJ:knN d m.toNat (k,t,u)=knR d inner s/\P)(hm: ¬0<m):(k,t,u)=knR d inner s:=by
 have:=hJ.1;rw[show m.toNat=0 by omega]at this;exact this
theorem P1{d inner m:Int}{s u:j4}{k k3:List Rat}{t:Rat}{j:Nat}{P:Prop}(hJ:knN d m.toNat (k,t,u)=knR d inner s/\P)(hm: ¬0<m)(hL:k3=k++List.replicate j (t+((1:Int):Rat))/\(j:Int)<=d+1)(hj: ¬(j:Int)<=d):
  u=jY d inner s/\k3=js d inner s:=by
 have e:=q1e hJ hm;unfold jY js;rw[<-e,hL.1,show(d+1).toNat=j by omega];exact⟨rfl,rfl⟩
end
abbrev qP:Type:=Int×Int×List Rat×List Rat×List (List ju)
abbrev qR:Ty:= .pr (.int .i64) (.pr (.int .i64) (.pr (.sl .rat) (.pr (.sl .rat) (.sl (.sl qr)))))
section
section
variable {c:ze} {v:V3} {l:List (List ju)} {i:Nat}
end
def j3(s:qP)(i:Nat):List ju:=s.2.2.2.2.getD i []
def colN(s:qP)(j:Nat):Nat->List ju
 |0=>[]
 |n+1=>colN s j n++[(j3 s n).getD j ((0,(0,0)),0)]
def swN(s:qP):Nat->List (List ju)
 |0=>[]
 |n+1=>swN s n++[colN s n s.2.2.2.2.length]
def qF(s:qP):qP:=(s.2.1,s.1,s.2.2.2.1,s.2.2.1,swN s (j3 s 0).length)
theorem Dv(s:qP)(j:Nat): ∀n,(colN s j n).length=n
 |0=>rfl
 |n+1=>by simp only[colN,q6M,Dv s j n,q6N,q6Q]
theorem BS(s:qP): ∀n,(swN s n).length=n
 |0=>rfl
 |n+1=>by simp only[swN,q6M,BS s n,q6N,q6Q]
theorem q0x{s:qP}{i j:Nat}{l:List ju}(h:l=colN s j i):l++[(j3 s i).getD j ((0,(0,0)),0)]=colN s j (i+1):=by rw[h];rfl
theorem q6d{s:qP}{i j:Nat}{l:List (List ju)}{r:List ju}(h:l=swN s j)(hr:r=colN s j i)(hi: ¬i<s.2.2.2.2.length)(hl:i<=s.2.2.2.2.length):l++[r]=swN s (j+1):=by
 rw[h,hr,show i=s.2.2.2.2.length by omega];rfl
theorem Sj{s:qP}{j:Nat}{l:List (List ju)}(h:l=swN s j)(hi: ¬j<(j3 s 0).length)(hl:j<=(j3 s 0).length):(s.2.1,s.1,s.2.2.2.1,s.2.2.1,l)=qF s:=by
 unfold qF;rw[h,show j=(j3 s 0).length by omega]
abbrev bSfl:Bd:= .p (.n 6) (.p (.n 6) (.p (.s 16 (.n 6)) (.p (.s 16 (.n 6)) (.s 16 (.s 16 (jK 12))))))
theorem d0_b(m:Nat):Bnd qr (jK m) ((0,(0,0)),0):=⟨⟨qY _,qY _,qY _⟩,qY _⟩
theorem AR{s:qP}(h:Bnd qR bSfl s)(i:Nat):Bnd (.sl qr) (.s 16 (jK 12)) (j3 s i):=by
 unfold j3;by_cases e:i<s.2.2.2.2.length
 .rw[vq e];exact h.2.2.2.2.2 _ (List.getElem_mem e)
 .rw[q6E,q6J (by omega)];exact⟨q7G _,λx hx=>by cases hx⟩
theorem Wu{l:List ju}{m:Nat}(h: ∀p∈l,Bnd qr (jK m) p)(j:Nat):Bnd qr (jK m) (l.getD j ((0,(0,0)),0)):=by
 by_cases e:j<l.length
 .rw[vq e];exact h _ (List.getElem_mem e)
 .rw[q6E,q6J (by omega)];exact d0_b m
theorem Oe{s:qP}(h:Bnd qR bSfl s)(j:Nat): ∀n,∀p∈colN s j n,Bnd qr (jK 12) p
 |0,p,hp=>by cases hp
 |n+1,p,hp=>by
  simp only[colN,q6T,q70]at hp;rcases hp with hp|hp
  .exact Oe h j n p hp
  .rw[hp];exact Wu (AR h n).2 j
theorem TF{s:qP}(h:Bnd qR bSfl s): ∀n,∀r∈swN s n,Bnd (.sl qr) (.s 16 (jK 12)) r
 |0,r,hr=>by cases hr
 |n+1,r,hr=>by
  simp only[swN,q6T,q70]at hr;rcases hr with hr|hr
  .exact TF h n r hr
  .rw[hr];exact⟨by rw[Dv];exact h.2.2.2.2.1,Oe h n _⟩
theorem Fr{s:qP}(h:Bnd qR bSfl s):Bnd qR bSfl (qF s):=
 ⟨h.2.1,h.1,h.2.2.2.1,h.2.2.1,by show(swN s (j3 s 0).length).length<=16;rw[BS];exact(AR h 0).1,TF h _⟩
theorem q5J{s:qP}(h:Bnd qR bSfl s)(i:Nat):Bnd AU (.p (.n 6) (.p (.s 16 (.n 6)) (.s 16 (jK 12)))) (s.2.1,s.2.2.2.1,j3 s i):=⟨h.2.1,h.2.2.2.1,AR h i⟩
abbrev rowC(s:qP)(i:Nat):ze:=(s.2.1,s.2.2.2.1,j3 s i)
def isoP(s:qP)(t:Rat):Nat->List ju
 |0=>[]
 |n+1=>isoP s t n++[jw (homV (rowC s n) t)]
theorem Ca(s:qP)(t:Rat): ∀n,(isoP s t n).length=n
 |0=>rfl
 |n+1=>by simp only[isoP,q6M,Ca s t n,q6N,q6Q]
def ja(s:qP)(t:Rat):ze×Int:=if jv s.2.2.2.1 t≠0 then((0,[],[]),jv s.2.2.2.1 t)else((s.1,s.2.2.1,isoP s t s.2.2.2.2.length),0)
theorem q11{s:qP}{t:Rat}{i:Nat}{l:List ju}(h:l=isoP s t i):l++[jw (homV (rowC s i) t)]=isoP s t (i+1):=by rw[h];rfl
theorem Td{s:qP}{t:Rat}(h:jv s.2.2.2.1 t≠0):(0,[],[])=(ja s t).1/\jv s.2.2.2.1 t=(ja s t).2:=by unfold ja;rw[if_pos h];exact⟨rfl,rfl⟩
theorem Te{s:qP}{t:Rat}{i:Nat}{l:List ju}(h: ¬jv s.2.2.2.1 t≠0)(e:l=isoP s t i)(hi: ¬i<s.2.2.2.2.length)(hl:i<=s.2.2.2.2.length):
  (s.1,s.2.2.1,l)=(ja s t).1/\0=(ja s t).2:=by unfold ja;rw[if_neg h,e,show i=s.2.2.2.2.length by omega];exact⟨rfl,rfl⟩
structure IsO (s:qP) (t:Rat):Prop where
 sb:Bnd qR bSfl s
 tb:Bnd .rat (.n 4096) t
 d0:0<=s.2.1
 kl:s.2.1.toNat+2<=s.2.2.2.1.length
 ev: ∀i,i<s.2.2.2.2.length->EvC (rowC s i) t
 pb: ∀i,i<s.2.2.2.2.length->Bnd qr (jK 200000) (jw (homV (rowC s i) t))
abbrev bIso:Bd:= .p (.n 6) (.p (.s 16 (.n 6)) (.s 16 (jK 200000)))
theorem GV{s:qP}{t:Rat}(h:IsO s t): ∀n,n<=s.2.2.2.2.length-> ∀p∈isoP s t n,Bnd qr (jK 200000) p
 |0,_,p,hp=>by cases hp
 |n+1,hn,p,hp=>by
  simp only[isoP,q6T,q70]at hp;rcases hp with hp|hp
  .exact GV h n (by omega) p hp
  .rw[hp];exact h.pb n (by omega)
theorem LZ{s:qP}{t:Rat}(h:IsO s t):(WV.tup [.agg [.dt AU bIso (ja s t).1],.one (.dt (.int .i64) (.n 7) (ja s t).2)]).ok:=by
 have h1:Bnd AU bIso (ja s t).1/\((ja s t).2).natAbs<=7:=by
  unfold ja;split
  .exact⟨⟨(by decide:Int.natAbs 0<=6),⟨q7G _,λx hx=>by cases hx⟩,q7G _,λx hx=>by cases hx⟩,Bg _ t⟩
  .refine⟨⟨h.sb.1,h.sb.2.2.1,?_,GV h _ (q7j _)⟩,(by decide:Int.natAbs 0<=7)⟩
   show(isoP s t s.2.2.2.2.length).length<=16;rw[Ca];exact h.sb.2.2.2.2.1
 exact qc (qh h1.1) (qc (qa h1.2 rfl) qy)
def sevV(s:qP)(t u:Rat):V3×Int:=if(ja (qF s) t).2≠0 then((0,0,0),(ja (qF s) t).2)else(evV (ja (qF s) t).1 u,jv (ja (qF s) t).1.2.1 u)
theorem q0Z(s:qP)(t:Rat):((ja s t).2).natAbs<=7:=by
 unfold ja;split
 .exact Bg _ t
 .exact(by decide:Int.natAbs 0<=7)
theorem q2I{s:qP}{t u:Rat}(h:EvC (ja (qF s) t).1 u):(WV.tup [.agg [.dt jj (bV3 67108868) (sevV s t u).1],.one (.dt (.int .i64) (.n 7) (sevV s t u).2)]).ok:=by
 have h1:Bnd jj (bV3 67108868) (sevV s t u).1/\((sevV s t u).2).natAbs<=7:=by
  unfold sevV;split
  .exact⟨⟨qY _,qY _,qY _⟩,q0Z _ t⟩
  .exact⟨Jd h,Bg _ u⟩
 exact qc (qh h1.1) (qc (qa h1.2 rfl) qy)
theorem TC{s:qP}{t u:Rat}(h:(ja (qF s) t).2≠0):(0,0,0)=(sevV s t u).1/\(ja (qF s) t).2=(sevV s t u).2:=by unfold sevV;rw[if_pos h];exact⟨rfl,rfl⟩
theorem TD{s:qP}{t u:Rat}(h: ¬(ja (qF s) t).2≠0):evV (ja (qF s) t).1 u=(sevV s t u).1/\jv (ja (qF s) t).1.2.1 u=(sevV s t u).2:=by unfold sevV;rw[if_neg h];exact⟨rfl,rfl⟩
end
abbrev Net:Type:=List (List ju)
def colR(r:Net)(j:Nat):Nat->List ju
 |0=>[]
 |n+1=>colR r j n++[(r.getD n []).getD j ((0,(0,0)),0)]
def trN(r:Net):Nat->Net
 |0=>[]
 |n+1=>trN r n++[colR r n r.length]
theorem C5(r:Net)(j:Nat): ∀n,(colR r j n).length=n
 |0=>rfl
 |n+1=>by simp only[colR,q6M,C5 r j n,q6N,q6Q]
theorem Dg(r:Net): ∀n,(trN r n).length=n
 |0=>rfl
 |n+1=>by simp only[trN,q6M,Dg r n,q6N,q6Q]
theorem q0y{r:Net}{j i:Nat}{l:List ju}(h:l=colR r j i):l++[(r.getD i []).getD j ((0,(0,0)),0)]=colR r j (i+1):=by rw[h];rfl
theorem q6f{r:Net}{j i:Nat}{l:Net}{c:List ju}(h:l=trN r j)(hc:c=colR r j i)(hi: ¬i<r.length)(hl:i<=r.length):l++[c]=trN r (j+1):=by
 rw[h,hc,show i=r.length by omega];rfl
theorem LO(s:qP)(j:Nat): ∀n,colR s.2.2.2.2 j n=colN s j n
 |0=>rfl
 |n+1=>by rw[colR,colN,LO s j n];rfl
theorem K8{r:Net}{b:Bd}(h: ∀x∈r,∀p∈x,Bnd qr b p)(hz:Bnd qr b ((0,(0,0)),0))(j:Nat): ∀n,∀p∈colR r j n,Bnd qr b p
 |0,p,hp=>by cases hp
 |n+1,p,hp=>by
  simp only[colR,q6T,q70]at hp;rcases hp with hp|hp
  .exact K8 h hz j n p hp
  .rw[hp,q6E,q6E]
   cases e:r[n]? with
   |none=>exact hz
   |some x=>
    show Bnd qr b (x[j]?.getD _)
    cases e2:x[j]? with
    |none=>exact hz
    |some y=>exact h x (q6Y e) y (q6Y e2)
theorem TH{r:Net}{b:Bd}(h: ∀x∈r,∀p∈x,Bnd qr b p)(hz:Bnd qr b ((0,(0,0)),0)): ∀n,∀x∈trN r n,x.length=r.length/\ ∀p∈x,Bnd qr b p
 |0,x,hx=>by cases hx
 |n+1,x,hx=>by
  simp only[trN,q6T,q70]at hx;rcases hx with hx|hx
  .exact TH h hz n x hx
  .rw[hx];exact⟨C5 _ _ _,K8 h hz n _⟩
theorem q6g{r:Net}(h:Bnd (.sl (.sl qr)) (.s 16 (.s 16 (jK 12))) r)(h0:0<r.length):Bnd (.sl (.sl qr)) (.s 16 (.s 16 (jK 12))) (trN r (r.getD 0 []).length):=by
 have hz:Bnd qr (jK 12) ((0,(0,0)),0):=⟨⟨qY _,qY _,qY _⟩,qY _⟩;have hb:=TH (λx hx=>(h.2 x hx).2) hz (r.getD 0 []).length;exact⟨by rw[Dg];exact(h.2 _ (by rw[vq h0];exact List.getElem_mem h0)).1,λx hx=>⟨by rw[(hb x hx).1];exact h.1,(hb x hx).2⟩⟩
abbrev q5C:FI:=⟨176,[(.sl (.sl (.pr (.pr .rat (.pr .rat .rat)) .rat)))],[(.s 16 (.s 16 (.p (.p (.n 12) (.p (.n 12) (.n 12))) (.n 12))))],λz=>(λ(r:List (List ((Rat×Rat×Rat)×Rat)))=>[Bnd (.sl (.sl qr)) (.s 16 (.s 16 (jK 12))) r,0<r.length,∀i,i<r.length->(r.getD i []).length=(r.getD 0 []).length]) z,λb z=>(λ(r:List (List ((Rat×Rat×Rat)×Rat)))=> .c (.one (.dt (.sl (.sl qr)) (.s 16 (.s 16 (jK 12))) (trN r (r.getD 0 []).length)))) z⟩
theorem q5D:q5C.OK Tryz.prog:=qB hmix 39 Tryz.func176 rfl rfl (by decide) [] (λ(r:List (List ((Rat×Rat×Rat)×Rat))) b hx hp=>qa (q6g (hp _ (q6W)) (hp _ (q6V _ (q6W)))) rfl) (λ(r:List (List ((Rat×Rat×Rat)×Rat))) hx hp=>by
 have hl0:r.length<=16:=hx.1;have hp1:0<r.length:=hp _ (q6V _ (q6W));have hp2: ∀i,i<r.length->(r.getD i []).length=(r.getD 0 []).length:=hp _ (q6V _ (q6V _ (q6W)));have hxl:r.length<=16:=hx.1
 refine⟨.cond (.dead) (.loop [.s 14 (.nat .i64) (.n 1048576),.g 3 90002 (.sl (.pr (.pr .rat (.pr .rat .rat)) .rat)) (.s 16 (.p (.p (.n 12) (.p (.n 12) (.n 12))) (.n 12))) 1048576] (λ((j,l):Nat×List (List ((Rat×Rat×Rat)×Rat)))=>l=trN r j/\j<=(r.getD 0 []).length) (λ((j,l):Nat×List (List ((Rat×Rat×Rat)×Rat)))=>(r.getD 0 []).length-j) (λ((j,l):Nat×List (List ((Rat×Rat×Rat)×Rat)))=> .cond (.loop [.s 19 (.nat .i64) (.n 1048576),.g 5 90001 (.pr (.pr .rat (.pr .rat .rat)) .rat) (.p (.p (.n 12) (.p (.n 12) (.n 12))) (.n 12)) 16] (λ((i,c):Nat×List ((Rat×Rat×Rat)×Rat))=>c=colR r j i/\i<=r.length) (λ((i,c):Nat×List ((Rat×Rat×Rat)×Rat))=>r.length-i) (λ((i,c):Nat×List ((Rat×Rat×Rat)×Rat))=> .cond (.h 11 8 (.mk (.im (.pr (.pr .rat (.pr .rat .rat)) .rat) (.p (.p (.n 12) (.p (.n 12) (.n 12))) (.n 12)))) (.nil)) (.pre 13 (.frz 90001 true [5]) (.h 13 2 (.mk (.im (.sl (.pr (.pr .rat (.pr .rat .rat)) .rat)) (.s 16 (.p (.p (.n 12) (.p (.n 12) (.n 12))) (.n 12))))) (.nil))))) (.pre 15 (.frz 90002 true [3]) (.nil)))),kcast (by kernel_rfl) (Sp (r.length=0) (λh1=>(?_:False)) (λh2=>I (?_:0<r.length) (I (rfl:0=([]:List (List ((Rat×Rat×Rat)×Rat))).length) (I (⟨rfl,q7G _⟩:([]:List (List ((Rat×Rat×Rat)×Rat)))=trN r 0/\0<=(r.getD 0 []).length) (λ(j:Nat)(l:List (List ((Rat×Rat×Rat)×Rat)))(hb3:HB [.s 14 (.nat .i64) (.n 1048576),.g 3 90002 (.sl (.pr (.pr .rat (.pr .rat .rat)) .rat)) (.s 16 (.p (.p (.n 12) (.p (.n 12) (.n 12))) (.n 12))) 1048576] (j,l))(hI:l=trN r j/\j<=(r.getD 0 []).length)=>have hv11:=(show j<=1048576 from hb3.1);have hv12:=(show l.length<=1048576 from hb3.2.1);have hq1:=(show(r.getD 0 []).length<=16 from(hx.2 _ (by rw[vq hp1];exact List.getElem_mem hp1)).1);have hl0:=(show l.length=j by rw[hI.1,Dg]);Sp (j<(r.getD 0 []).length) (λh4=>I (rfl:0=([]:List ((Rat×Rat×Rat)×Rat)).length) (I (⟨rfl,q7G _⟩:([]:List ((Rat×Rat×Rat)×Rat))=colR r j 0/\0<=r.length) (λ(i:Nat)(c:List ((Rat×Rat×Rat)×Rat))(hb5:HB [.s 19 (.nat .i64) (.n 1048576),.g 5 90001 (.pr (.pr .rat (.pr .rat .rat)) .rat) (.p (.p (.n 12) (.p (.n 12) (.n 12))) (.n 12)) 16] (i,c))(hJ:c=colR r j i/\i<=r.length)=>have hv8:=(show i<=1048576 from hb5.1);have hv9:=(show c.length<=16 from hb5.2.1);have hr0:=(show c.length=i by rw[hJ.1,C5]);have hrw:=(show i<r.length->(r.getD i []).length=(r.getD 0 []).length from hp2 i);Sp (i<r.length) (λh6=>I (?_:i<r.length) (I (by(try simp only[q6M,q6N,q6Q])<;>omega:j<(r.getD i []).length) (I (?_:c.length=c.length) (I (show(i+1)<=1048576 by omega:Bnd (.nat .i64) (.n 1048576) (i+1)) (I (by(try simp only[q6M,q6N,q6Q])<;>omega:c.length+[(r.getD i []).getD j ((0,(0,0)),0)].length=(c++[(r.getD i []).getD j ((0,(0,0)),0)]).length) (I (by(try simp only[q6M,q6N,q6Q])<;>omega:c.length+[(r.getD i []).getD j ((0,(0,0)),0)].length<=16) (q6q (⟨q0y hJ.1,by omega⟩:c++[(r.getD i []).getD j ((0,(0,0)),0)]=colR r j (i+1)/\(i+1)<=r.length) (?_:r.length-(i+1)<r.length-i)))))))) (λh7=>I (?_:c.length=c.length) (I (?_:l.length=l.length) (I (show(j+1)<=1048576 by omega:Bnd (.nat .i64) (.n 1048576) (j+1)) (I (by(try simp only[q6M,q6N,q6Q])<;>omega:l.length+[c].length=(l++[c]).length) (I (by(try simp only[q6M,q6N,q6Q])<;>omega:l.length+[c].length<=1048576) (q6q (⟨q6f hI.1 hJ.1 h7 hJ.2,by omega⟩:l++[c]=trN r (j+1)/\(j+1)<=(r.getD 0 []).length) (?_:(r.getD 0 []).length-(j+1)<(r.getD 0 []).length-j)))))))))) (λh10=>I (?_:l.length=l.length) ((by rw[hI.1,show j=(r.getD 0 []).length by omega]:l=trN r (r.getD 0 []).length))))))))⟩<;>omega)
abbrev Hn:Ctr Tryz.prog:=FI.c q5D
def auC(s:qP)(j:Nat):Spl:=(s.1,s.2.2.1,(colR s.2.2.2.2 j s.2.2.2.2.length).map v7)
def auN(s:qP):Nat->List Spl
 |0=>[]
 |n+1=>auN s n++[auC s n]
theorem BH(s:qP): ∀n,(auN s n).length=n
 |0=>rfl
 |n+1=>by simp only[auN,q6M,BH s n,q6N,q6Q]
theorem DF{α:Type}{l:List α}{x d:α}{n i:Nat}(hl:l.length=n)(hi:i<n+1):(l++[x]).getD i d=if i<n then l.getD i d else x:=by
 rw[q6E,q6E];split
 .rw[List.getElem?_append_left (by omega)]
 .rw[List.getElem?_append_right (by omega),show i-l.length=0 by omega];rfl
theorem Ip(r:Net): ∀n i,i<n->(trN r n).getD i []=colR r i r.length
 |n+1,i,h=>by
  rw[trN,DF (Dg r n) h];split
  .exact Ip r n i (by assumption)
  .rw[show i=n by omega]
theorem CW(s:qP): ∀n i d,i<n->(auN s n).getD i d=auC s i
 |n+1,i,d,h=>by
  rw[auN,DF (BH s n) h];split
  .exact CW s n i d (by assumption)
  .rw[show i=n by omega]
theorem q3Z{s:qP}{w i j:Nat}{l:List Spl}{o:List F4}(h:l=auN s i)(hi:i<w)(ho:o=(((trN s.2.2.2.2 w).getD i []).take j).map v7)(hj: ¬j<((trN s.2.2.2.2 w).getD i []).length):l++[(s.1,s.2.2.1,o)]=auN s (i+1):=by
 rw[ho,q75 (by omega),Ip _ w i hi,h];rfl
abbrev bAu:Bd:= .p (.n 6) (.p (.s 16 (.n 6)) (.s 16 (bF4 24)))
theorem q3Y{s:qP}(h:Bnd qR bSfl s)(i:Nat):Bnd jm bAu (auC s i):=by
 have hz:Bnd qr (jK 12) ((0,(0,0)),0):=⟨⟨qY _,qY _,qY _⟩,qY _⟩;refine⟨h.1,h.2.2.1,by show((colR _ _ _).map v7).length<=16;rw[q6P,C5];exact h.2.2.2.2.1,?_⟩;intro q hq;obtain⟨p,hp,rfl⟩:=List.mem_map.1 hq;exact Cr (F8 (K8 (λx hx=>(h.2.2.2.2.2 x hx).2) hz _ _ p hp)) (by simp only[Bd.mx];omega)
theorem q40{s:qP}(h:Bnd qR bSfl s)(n:Nat)(hn:n<=16):Bnd (.sl jm) (.s 16 bAu) (auN s n):=by
 refine⟨by rw[BH];exact hn,λx hx=>?_⟩;obtain⟨i,hi,rfl⟩:=List.mem_iff_getElem.1 hx;have e:(auN s n)[i]=(auN s n).getD i (0,[],[]):=(vq hi).symm;rw[e,CW s n i _ (by rw[BH]at hi;exact hi)];exact q3Y h i
theorem Ic{s:qP}(h:Bnd qR bSfl s):(s.2.2.2.2.getD 0 []).length<=16:=(AR h 0).1
abbrev UR:FB:=⟨19,(.pr (.sl (.int .i64)) (.nat .i64)),(.p (.s 1048576 (.n 9223372036854775808)) (.n 1048576)),[.bool],[.u],λs z=>[],λtb b s z=>(λ(f:Bool)=> .c (.agg [.dt qr (jK 5) (jS s f)])) z,λs z=>AS s,λtb b=> .p tb.l (.n (max tb.r.nb tb.l.len))⟩
theorem US:UR.OK Tryz.prog:=mkB' hmix 18 Tryz.func19 rfl rfl (by decide) [(8,.b D4),(21,.c wB),(37,.b QC)] (λ_=>rfl) (λ_ _=>rfl) (λ_ _ _ _=>rfl) (λ(s:List Int×Nat)(f:Bool) tb b hs hx hp=>⟨qh (I9 s f),Md hs⟩) (λ(s:List Int×Nat)(f:Bool) hs hx hp=>by
 refine⟨.nil,kcast (by kernel_rfl) (Sp (f=true) (λh1=>I (?_:(0:Int)<3) (I (?_:(3:Int)≠0) (q6q (rfl:qb (zn s)=AS s) ((by unfold jS;rw[if_pos (show f=true by assumption)]:(((Af s).1,((Af s).2).1,0),((1+(Int.tmod (qd (zn s) 3) 3):Int):Rat))=jS s f))))) (λh2=>I (?_:(0:Int)<3) (I (?_:(3:Int)≠0) (q6q (rfl:qb (zn s)=AS s) ((by unfold jS;rw[if_neg (show¬f=true by assumption)]:(Af s,((1+(Int.tmod (qd (zn s) 3) 3):Int):Rat))=jS s f))))))⟩<;>omega)
abbrev UQ:CtrB Tryz.prog:=FB.c US
abbrev Qy:FB:=⟨18,(.pr (.sl (.int .i64)) (.nat .i64)),(.p (.s 1048576 (.n 9223372036854775808)) (.n 1048576)),[(.int .i64),(.int .i64)],[(.n 1048576),(.n 1048576)],λs z=>(λ(d:Int)(inner:Int)=>[1<=d,d<=5,0<=inner,inner<=4]) z.1 z.2,λtb b s z=>(λ(d:Int)(inner:Int)=> .c (.one (.dt (.sl .rat) (.s 16 (.n 6)) (js d inner s)))) z.1 z.2,λs z=>(λ(d:Int)(inner:Int)=>jY d inner s) z.1 z.2,λtb b=> .p tb.l (.n (max tb.r.nb tb.l.len))⟩
theorem Qz:Qy.OK Tryz.prog:=mkB' hmix 80 Tryz.func18 rfl rfl (by decide) [(8,.b D4),(20,.c Dk),(21,.c wB),(23,.c Iw),(36,.c Fw)] (λ_=>rfl) (λ_ _=>rfl) (λ_ _ _ _=>rfl) (λ(s:List Int×Nat)(d:Int)(inner:Int) tb b hs hx hp=>⟨qa (FY s (hp _ (by simp)) (hp _ (by simp)) (hp _ (by simp))) rfl,FX hs⟩) (λ(s:List Int×Nat)(d:Int)(inner:Int) hs hx hp=>by
 have hx0:Int.natAbs d<=1048576:=hx.1;have hx1:Int.natAbs inner<=1048576:=hx.2;have hp0:1<=d:=hp _ (q6W);have hp1:d<=5:=hp _ (q6V _ (q6W));have hp2:0<=inner:=hp _ (q6V _ (q6V _ (q6W)));have hp3:inner<=4:=hp _ (q6V _ (q6V _ (q6V _ (q6W))))
 refine⟨.loop [.s 9 (.nat .i64) (.n 7),.g 8 90001 .rat (.n 6) 1048576] (λ((i,k):Nat×List Rat)=>k=List.replicate i ((qd s 4-2:Int):Rat)/\(i:Int)<=d+1) (λ((i,k):Nat×List Rat)=>(d+1).toNat-i) (λ((i,k):Nat×List Rat)=> .cond (.h 6 2 (.mk (.im .rat (.n 6))) (.nil)) (.loop [.s 10 (.int .i64) (.n 5),.g 8 90002 .rat (.n 6) 1048576,.r 7 .rat (.n 6),.r 100000 (.pr (.sl (.int .i64)) (.nat .i64)) (.p (.s 1048576 (.n 9223372036854775808)) (.n 1048576))] (λ((m,k2,t,u):Int×List Rat×Rat×List Int×Nat)=>knN d (m).toNat (k2,t,u)=knR d inner s/\0<=m/\m<=4/\KnI (4+6*(4-(m)).toNat) (10-(m).toNat) (k2,t,u)/\d+1<=(k2.length:Int)) (λ((m,k2,t,u):Int×List Rat×Rat×List Int×Nat)=>(m).toNat) (λ((m,k2,t,u):Int×List Rat×Rat×List Int×Nat)=> .cond (.cond (.h 12 2 (.mk (.im .rat (.n 60))) (.h 9 1 (.i (.z (m-1) 5)) (.nil))) (.cond (.h 12 2 (.mk (.im .rat (.n 60))) (.h 9 1 (.i (.z (m-1) 5)) (.nil))) (.h 10 16 (.i (.n (((k2.length:Int) -d).toNat) 1048576)) (.cond (.h 12 2 (.mk (.im .rat (.n 60))) (.h 9 1 (.i (.z (m-1) 5)) (.nil))) (.h 12 2 (.mk (.im .rat (.n 60))) (.h 9 1 (.i (.z (m-1) 5)) (.nil))))))) (.loop [.s 11 (.nat .i64) (.n 7),.g 8 90003 .rat (.n 6) 1048576] (λ((j,k3):Nat×List Rat)=>k3=k2++List.replicate j (t+((1:Int):Rat))/\(j:Int)<=d+1) (λ((j,k3):Nat×List Rat)=>(d+1).toNat-j) (λ((j,k3):Nat×List Rat)=> .cond (.h 17 2 (.mk (.im .rat (.n 60))) (.nil)) (.pre 18 (.frz 90003 true [8]) (.nil))))))),kcast (by kernel_rfl) (I (?_:(0:Int)<4) (I (rfl:0=([]:List Rat).length) (I (⟨rfl,by omega⟩:([]:List Rat)=List.replicate 0 ((qd s 4-2:Int):Rat)/\(0:Int)<=d+1) (λ(i:Nat)(k:List Rat)(hb1:HB [.s 9 (.nat .i64) (.n 7),.g 8 90001 .rat (.n 6) 1048576] (i,k))(hI:k=List.replicate i ((qd s 4-2:Int):Rat)/\(i:Int)<=d+1)=>have hv20:=(show i<=7 from hb1.1);have hv21:=(show k.length<=1048576 from hb1.2.1);have hkl:=(show k.length=i by rw[hI.1,List.length_replicate]);Sp ((i:Int)<=d) (λh2=>I (?_:k.length=k.length) (I (show(i+1)<=7 by omega:Bnd (.nat .i64) (.n 7) (i+1)) (I (by(try simp only[q6M,q6N,q6Q])<;>omega:k.length+[(((qd s 4) -2:Int):Rat)].length=(k++[(((qd s 4) -2:Int):Rat)]).length) (I (by(try simp only[q6M,q6N,q6Q])<;>omega:k.length+[(((qd s 4) -2:Int):Rat)].length<=1048576) (q6q (⟨by rw[hI.1,List.replicate_succ'],by omega⟩:(k++[(((qd s 4) -2:Int):Rat)])=List.replicate (i+1) ((qd s 4-2:Int):Rat)/\(i+1:Int)<=d+1) (?_:(d+1).toNat-(i+1)<(d+1).toNat-i)))))) (λh3=>have hnv:=(jT (qb s) (m:=inner+1) (by omega));I (?_:(0:Int)<inner+1) (I (show Int.natAbs (qd (qb s) (inner+1))<=5 by omega:Bnd (.int .i64) (.n 5) (qd (qb s) (inner+1))) (I (?_:k.length=k.length) (I (R9 hI h3 hp1 hp2 hp3:knN d (qd (qb s) (inner+1)).toNat (k,(((qd s 4) -2:Int):Rat),qb (qb s))=knR d inner s/\0<=qd (qb s) (inner+1)/\qd (qb s) (inner+1)<=4/\KnI (4+6*(4-(qd (qb s) (inner+1))).toNat) (10-(qd (qb s) (inner+1)).toNat) (k,(((qd s 4) -2:Int):Rat),qb (qb s))/\d+1<=(k.length:Int)) (λ(m:Int)(k2:List Rat)(t:Rat)(u:List Int×Nat)(hb4:HB [.s 10 (.int .i64) (.n 5),.g 8 90002 .rat (.n 6) 1048576,.r 7 .rat (.n 6),.r 100000 (.pr (.sl (.int .i64)) (.nat .i64)) (.p (.s 1048576 (.n 9223372036854775808)) (.n 1048576))] (m,k2,t,u))(hJ:knN d (m).toNat (k2,t,u)=knR d inner s/\0<=m/\m<=4/\KnI (4+6*(4-(m)).toNat) (10-(m).toNat) (k2,t,u)/\d+1<=(k2.length:Int))=>have hv18:=(show Int.natAbs m<=5 from hb4.1);have hv19:=(show k2.length<=1048576 from hb4.2.1.1);have hkl4:=hJ.2.2.2.2;have hkl2:=(show k2.length<=10 from q7k hJ.2.2.2.1.l (by omega));Sp (0<m) (λh5=>Sp (((k2.length:Nat):Int)=d+1) (λh6=>I (?_:(0:Int)<3) (I (?_:(0:Int)<2) (I (?_:k2.length=k2.length) (I ((λx hx=>by rw[q70.1 hx];first|exact((hJ.2.2.2.1.t.addT _).le (by omega)).bnd|exact(hJ.2.2.2.1.t.le (by omega)).bnd: ∀x∈[t+(((1+(qd u 3):Int):Rat)/((1+(qd (qb u) 2):Int):Rat))],Bnd .rat (.n 6) x): ∀x∈[t+(((1+(qd u 3):Int):Rat)/((1+(qd (qb u) 2):Int):Rat))],Bnd .rat (.n 6) x) (I (zJ rfl (by omega):qK .sub .i64 m 1 (m-1)) (I (?_:Int.natAbs (m-1)<=5) (have hN:=F7 (by omega) hJ (Tn h6);I (by(try simp only[q6M,q6N,q6Q])<;>omega:k2.length+[t+(((1+(qd u 3):Int):Rat)/((1+(qd (qb u) 2):Int):Rat))].length=(k2++[t+(((1+(qd u 3):Int):Rat)/((1+(qd (qb u) 2):Int):Rat))]).length) (I (by(try simp only[q6M,q6N,q6Q])<;>omega:k2.length+[t+(((1+(qd u 3):Int):Rat)/((1+(qd (qb u) 2):Int):Rat))].length<=1048576) (I ((hN.2.2.2.1.t.le (by omega)).bnd:Bnd .rat (.n 6) (t+(((1+(qd u 3):Int):Rat)/((1+(qd (qb u) 2):Int):Rat)))) (q6q (hN:knN d (m-1).toNat (k2++[t+(((1+(qd u 3):Int):Rat)/((1+(qd (qb u) 2):Int):Rat))],t+(((1+(qd u 3):Int):Rat)/((1+(qd (qb u) 2):Int):Rat)),qb (qb u))=knR d inner s/\0<=m-1/\m-1<=4/\KnI (4+6*(4-(m-1)).toNat) (10-(m-1).toNat) (k2++[t+(((1+(qd u 3):Int):Rat)/((1+(qd (qb u) 2):Int):Rat))],t+(((1+(qd u 3):Int):Rat)/((1+(qd (qb u) 2):Int):Rat)),qb (qb u))/\d+1<=((k2++[t+(((1+(qd u 3):Int):Rat)/((1+(qd (qb u) 2):Int):Rat))]).length:Int)) (?_:(m-1).toNat<(m).toNat))))))))))) (λh7=>I (?_:(0:Int)<3) (Sp (0<qd u 3) (λh8=>I (?_:(0:Int)<3) (I (?_:(0:Int)<2) (I (?_:k2.length=k2.length) (I ((λx hx=>by rw[q70.1 hx];first|exact((hJ.2.2.2.1.t.addT _).le (by omega)).bnd|exact(hJ.2.2.2.1.t.le (by omega)).bnd: ∀x∈[t+(((1+(qd (qb u) 3):Int):Rat)/((1+(qd (qb (qb u)) 2):Int):Rat))],Bnd .rat (.n 6) x): ∀x∈[t+(((1+(qd (qb u) 3):Int):Rat)/((1+(qd (qb (qb u)) 2):Int):Rat))],Bnd .rat (.n 6) x) (I (zJ rfl (by omega):qK .sub .i64 m 1 (m-1)) (I (?_:Int.natAbs (m-1)<=5) (have hN:=F7 (by omega) hJ (To h7 (.inl h8));I (by(try simp only[q6M,q6N,q6Q])<;>omega:k2.length+[t+(((1+(qd (qb u) 3):Int):Rat)/((1+(qd (qb (qb u)) 2):Int):Rat))].length=(k2++[t+(((1+(qd (qb u) 3):Int):Rat)/((1+(qd (qb (qb u)) 2):Int):Rat))]).length) (I (by(try simp only[q6M,q6N,q6Q])<;>omega:k2.length+[t+(((1+(qd (qb u) 3):Int):Rat)/((1+(qd (qb (qb u)) 2):Int):Rat))].length<=1048576) (I ((hN.2.2.2.1.t.le (by omega)).bnd:Bnd .rat (.n 6) (t+(((1+(qd (qb u) 3):Int):Rat)/((1+(qd (qb (qb u)) 2):Int):Rat)))) (q6q (hN:knN d (m-1).toNat (k2++[t+(((1+(qd (qb u) 3):Int):Rat)/((1+(qd (qb (qb u)) 2):Int):Rat))],t+(((1+(qd (qb u) 3):Int):Rat)/((1+(qd (qb (qb u)) 2):Int):Rat)),qb (qb (qb u)))=knR d inner s/\0<=m-1/\m-1<=4/\KnI (4+6*(4-(m-1)).toNat) (10-(m-1).toNat) (k2++[t+(((1+(qd (qb u) 3):Int):Rat)/((1+(qd (qb (qb u)) 2):Int):Rat))],t+(((1+(qd (qb u) 3):Int):Rat)/((1+(qd (qb (qb u)) 2):Int):Rat)),qb (qb (qb u)))/\d+1<=((k2++[t+(((1+(qd (qb u) 3):Int):Rat)/((1+(qd (qb (qb u)) 2):Int):Rat))]).length:Int)) (?_:(m-1).toNat<(m).toNat))))))))))) (λh9=>I (zJ (by omega) (by omega):qK .sub .i64 ((k2.length:Nat):Int) d ((((k2.length:Int) -d).toNat:Nat):Int)) (I (?_:((k2.length:Int) -d).toNat<=1048576) (I (?_:((k2.length:Int) -d).toNat<k2.length) (I (?_:((k2.length:Int) -d).toNat<k2.length) (Sp (decide (t=(k2.getD (((k2.length:Int) -d).toNat) 0))=true) (λh10=>I (?_:(0:Int)<3) (I (?_:(0:Int)<2) (I (?_:k2.length=k2.length) (I ((λx hx=>by rw[q70.1 hx];first|exact((hJ.2.2.2.1.t.addT _).le (by omega)).bnd|exact(hJ.2.2.2.1.t.le (by omega)).bnd: ∀x∈[t+(((1+(qd (qb u) 3):Int):Rat)/((1+(qd (qb (qb u)) 2):Int):Rat))],Bnd .rat (.n 6) x): ∀x∈[t+(((1+(qd (qb u) 3):Int):Rat)/((1+(qd (qb (qb u)) 2):Int):Rat))],Bnd .rat (.n 6) x) (I (zJ rfl (by omega):qK .sub .i64 m 1 (m-1)) (I (?_:Int.natAbs (m-1)<=5) (have hN:=F7 (by omega) hJ (To h7 (.inr (of_decide_eq_true h10)));I (by(try simp only[q6M,q6N,q6Q])<;>omega:k2.length+[t+(((1+(qd (qb u) 3):Int):Rat)/((1+(qd (qb (qb u)) 2):Int):Rat))].length=(k2++[t+(((1+(qd (qb u) 3):Int):Rat)/((1+(qd (qb (qb u)) 2):Int):Rat))]).length) (I (by(try simp only[q6M,q6N,q6Q])<;>omega:k2.length+[t+(((1+(qd (qb u) 3):Int):Rat)/((1+(qd (qb (qb u)) 2):Int):Rat))].length<=1048576) (I ((hN.2.2.2.1.t.le (by omega)).bnd:Bnd .rat (.n 6) (t+(((1+(qd (qb u) 3):Int):Rat)/((1+(qd (qb (qb u)) 2):Int):Rat)))) (q6q (hN:knN d (m-1).toNat (k2++[t+(((1+(qd (qb u) 3):Int):Rat)/((1+(qd (qb (qb u)) 2):Int):Rat))],t+(((1+(qd (qb u) 3):Int):Rat)/((1+(qd (qb (qb u)) 2):Int):Rat)),qb (qb (qb u)))=knR d inner s/\0<=m-1/\m-1<=4/\KnI (4+6*(4-(m-1)).toNat) (10-(m-1).toNat) (k2++[t+(((1+(qd (qb u) 3):Int):Rat)/((1+(qd (qb (qb u)) 2):Int):Rat))],t+(((1+(qd (qb u) 3):Int):Rat)/((1+(qd (qb (qb u)) 2):Int):Rat)),qb (qb (qb u)))/\d+1<=((k2++[t+(((1+(qd (qb u) 3):Int):Rat)/((1+(qd (qb (qb u)) 2):Int):Rat))]).length:Int)) (?_:(m-1).toNat<(m).toNat))))))))))) (λh11=>I (?_:k2.length=k2.length) (I ((λx hx=>by rw[q70.1 hx];first|exact((hJ.2.2.2.1.t.addT _).le (by omega)).bnd|exact(hJ.2.2.2.1.t.le (by omega)).bnd: ∀x∈[t],Bnd .rat (.n 6) x): ∀x∈[t],Bnd .rat (.n 6) x) (I (zJ rfl (by omega):qK .sub .i64 m 1 (m-1)) (I (?_:Int.natAbs (m-1)<=5) (have hN:=F7 (by omega) hJ (q5o h7 h9 (λe=>h11 (decide_eq_true e)));I (by(try simp only[q6M,q6N,q6Q])<;>omega:k2.length+[t].length=(k2++[t]).length) (I (by(try simp only[q6M,q6N,q6Q])<;>omega:k2.length+[t].length<=1048576) (q6q (hN:knN d (m-1).toNat (k2++[t],t,qb u)=knR d inner s/\0<=m-1/\m-1<=4/\KnI (4+6*(4-(m-1)).toNat) (10-(m-1).toNat) (k2++[t],t,qb u)/\d+1<=((k2++[t]).length:Int)) (?_:(m-1).toNat<(m).toNat)))))))))))))))) (λh12=>I (?_:k2.length=k2.length) (I (⟨by simp,by omega⟩:k2=k2++List.replicate 0 (t+((1:Int):Rat))/\(0:Int)<=d+1) (λ(j:Nat)(k3:List Rat)(hb13:HB [.s 11 (.nat .i64) (.n 7),.g 8 90003 .rat (.n 6) 1048576] (j,k3))(hL:k3=k2++List.replicate j (t+((1:Int):Rat))/\(j:Int)<=d+1)=>have hv16:=(show j<=7 from hb13.1);have hv17:=(show k3.length<=1048576 from hb13.2.1);have hkl3:=(show k3.length=k2.length+j by rw[hL.1,q6M,List.length_replicate]);Sp ((j:Int)<=d) (λh14=>I (?_:k3.length=k3.length) (I ((λx hx=>by rw[q70.1 hx];exact(hJ.2.2.2.1.t.one.le (by omega)).bnd: ∀x∈[t+((1:Int):Rat)],Bnd .rat (.n 6) x): ∀x∈[t+((1:Int):Rat)],Bnd .rat (.n 6) x) (I (show(j+1)<=7 by omega:Bnd (.nat .i64) (.n 7) (j+1)) (I (by(try simp only[q6M,q6N,q6Q])<;>omega:k3.length+[t+((1:Int):Rat)].length=(k3++[t+((1:Int):Rat)]).length) (I (by(try simp only[q6M,q6N,q6Q])<;>omega:k3.length+[t+((1:Int):Rat)].length<=1048576) (q6q (⟨by rw[hL.1,List.replicate_succ',q6y],by omega⟩:(k3++[t+((1:Int):Rat)])=k2++List.replicate (j+1) (t+((1:Int):Rat))/\(j+1:Int)<=d+1) (?_:(d+1).toNat-(j+1)<(d+1).toNat-j))))))) (λh15=>I (?_:k3.length=k3.length) (q6q ((P1 hJ h12 hL h15).1:u=jY d inner s) (((P1 hJ h12 hL h15).2:k3=js d inner s))))))))))))))))⟩<;>omega)
abbrev Qx:CtrB Tryz.prog:=FB.c Qz
abbrev q5x:FI:=⟨162,[(.pr (.int .i64) (.pr (.int .i64) (.pr (.sl .rat) (.pr (.sl .rat) (.sl (.sl (.pr (.pr .rat (.pr .rat .rat)) .rat)))))))],[(.p (.n 6) (.p (.n 6) (.p (.s 16 (.n 6)) (.p (.s 16 (.n 6)) (.s 16 (.s 16 (.p (.p (.n 12) (.p (.n 12) (.n 12))) (.n 12))))))))],λz=>(λ(s:Int×Int×List Rat×List Rat×List (List ((Rat×Rat×Rat)×Rat)))=>[Bnd qR bSfl s,0<s.2.2.2.2.length,∀i,i<s.2.2.2.2.length->(j3 s i).length=(j3 s 0).length]) z,λb z=>(λ(s:Int×Int×List Rat×List Rat×List (List ((Rat×Rat×Rat)×Rat)))=> .c (.one (.dt (.sl jm) (.s 16 bAu) (auN s (s.2.2.2.2.getD 0 []).length)))) z⟩
theorem q5y:q5x.OK Tryz.prog:=qB hmix 42 Tryz.func162 rfl rfl (by decide) [(127,.c Hx),(176,.c Hn)] (λ(s:Int×Int×List Rat×List Rat×List (List ((Rat×Rat×Rat)×Rat))) b hx hp=>qa (q40 (hp _ (q6W)) _ (Ic (hp _ (q6W)))) rfl) (λ(s:Int×Int×List Rat×List Rat×List (List ((Rat×Rat×Rat)×Rat))) hx hp=>by
 have hp0:Bnd qR bSfl s:=hp _ (q6W);have hp1:0<s.2.2.2.2.length:=hp _ (q6V _ (q6W));have hp2: ∀i,i<s.2.2.2.2.length->(j3 s i).length=(j3 s 0).length:=hp _ (q6V _ (q6V _ (q6W)));have hxl:s.2.2.2.2.length<=16:=hx.2.2.2.2.1
 refine⟨.loop [.s 13 (.nat .i64) (.n 1048576),.g 3 90002 (.pr (.int .i64) (.pr (.sl .rat) (.sl (.pr .rat (.pr .rat (.pr .rat .rat)))))) (.p (.n 6) (.p (.s 16 (.n 6)) (.s 16 (.p (.n 24) (.p (.n 24) (.p (.n 24) (.n 24))))))) 1048576] (λ((i,l):Nat×List (Int×List Rat×List (Rat×Rat×Rat×Rat)))=>l=auN s i/\i<=(trN s.2.2.2.2 (s.2.2.2.2.getD 0 []).length).length) (λ((i,l):Nat×List (Int×List Rat×List (Rat×Rat×Rat×Rat)))=>(trN s.2.2.2.2 (s.2.2.2.2.getD 0 []).length).length-i) (λ((i,l):Nat×List (Int×List Rat×List (Rat×Rat×Rat×Rat)))=> .cond (.loop [.s 24 (.nat .i64) (.n 1048576),.ex (gboX 6 90001 [(.dt (.int .i64) (.n 6) s.1),(.dt (.sl .rat) (.s 16 (.n 6)) s.2.2.1)] [] (.pr .rat (.pr .rat (.pr .rat .rat))) (.p (.n 24) (.p (.n 24) (.p (.n 24) (.n 24)))) 16)] (λ((j,o):Nat×List (Rat×Rat×Rat×Rat))=>o=(((trN s.2.2.2.2 (s.2.2.2.2.getD 0 []).length).getD i []).take j).map v7/\j<=((trN s.2.2.2.2 (s.2.2.2.2.getD 0 []).length).getD i []).length) (λ((j,o):Nat×List (Rat×Rat×Rat×Rat))=>((trN s.2.2.2.2 (s.2.2.2.2.getD 0 []).length).getD i []).length-j) (λ((j,o):Nat×List (Rat×Rat×Rat×Rat))=> .cond (.h 9 1 (.ext DB) (.h 9 4 (.mk (.im (.pr .rat (.pr .rat (.pr .rat .rat))) (.p (.n 24) (.p (.n 24) (.p (.n 24) (.n 24)))))) (.nil))) (.pre 11 (.frz 90001 true []) (.h 11 2 (.mk (.im (.pr (.int .i64) (.pr (.sl .rat) (.sl (.pr .rat (.pr .rat (.pr .rat .rat)))))) (.p (.n 6) (.p (.s 16 (.n 6)) (.s 16 (.p (.n 24) (.p (.n 24) (.p (.n 24) (.n 24))))))))) (.nil))))) (.pre 13 (.frz 90002 true [3]) (.nil))),kcast (by kernel_rfl) (I (hp0.2.2.2.2:Bnd (.sl (.sl qr)) (.s 16 (.s 16 (jK 12))) s.2.2.2.2) (I (hp1:0<s.2.2.2.2.length) (I (hp2: ∀i,i<s.2.2.2.2.length->(s.2.2.2.2.getD i []).length=(s.2.2.2.2.getD 0 []).length) (I (rfl:0=([]:List (Int×List Rat×List (Rat×Rat×Rat×Rat))).length) (I (⟨rfl,q7G _⟩:([]:List (Int×List Rat×List (Rat×Rat×Rat×Rat)))=auN s 0/\0<=(trN s.2.2.2.2 (s.2.2.2.2.getD 0 []).length).length) (λ(i:Nat)(l:List (Int×List Rat×List (Rat×Rat×Rat×Rat)))(hb1:HB [.s 13 (.nat .i64) (.n 1048576),.g 3 90002 (.pr (.int .i64) (.pr (.sl .rat) (.sl (.pr .rat (.pr .rat (.pr .rat .rat)))))) (.p (.n 6) (.p (.s 16 (.n 6)) (.s 16 (.p (.n 24) (.p (.n 24) (.p (.n 24) (.n 24))))))) 1048576] (i,l))(hI:l=auN s i/\i<=(trN s.2.2.2.2 (s.2.2.2.2.getD 0 []).length).length)=>have hv9:=(show i<=1048576 from hb1.1);have hv10:=(show l.length<=1048576 from hb1.2.1);have htl:=(Dg s.2.2.2.2 (s.2.2.2.2.getD 0 []).length);have hl0:=(show l.length=i by rw[hI.1,BH]);have hw0:=(Ic hp0);have hcl:=(show i<(s.2.2.2.2.getD 0 []).length->((trN s.2.2.2.2 (s.2.2.2.2.getD 0 []).length).getD i []).length=s.2.2.2.2.length from λh=>by rw[Ip _ _ _ h,C5]);Sp (i<(trN s.2.2.2.2 (s.2.2.2.2.getD 0 []).length).length) (λh2=>I (by(try simp only[q6M,q6N,q6Q])<;>omega:i<(trN s.2.2.2.2 (s.2.2.2.2.getD 0 []).length).length) (I (rfl:([(.dt (.int .i64) (.n 6) s.1),(.dt (.sl .rat) (.s 16 (.n 6)) s.2.2.1)]:List WA)=[(.dt (.int .i64) (.n 6) s.1),(.dt (.sl .rat) (.s 16 (.n 6)) s.2.2.1)]) (I (rfl:([]:List WA)=[]) (I (rfl:0=([]:List (Rat×Rat×Rat×Rat)).length) (I (⟨rfl,q7G _⟩:([]:List (Rat×Rat×Rat×Rat))=(((trN s.2.2.2.2 (s.2.2.2.2.getD 0 []).length).getD i []).take 0).map v7/\0<=((trN s.2.2.2.2 (s.2.2.2.2.getD 0 []).length).getD i []).length) (λ(j:Nat)(o:List (Rat×Rat×Rat×Rat))(hb3:HB [.s 24 (.nat .i64) (.n 1048576),.ex (gboX 6 90001 [(.dt (.int .i64) (.n 6) s.1),(.dt (.sl .rat) (.s 16 (.n 6)) s.2.2.1)] [] (.pr .rat (.pr .rat (.pr .rat .rat))) (.p (.n 24) (.p (.n 24) (.p (.n 24) (.n 24)))) 16)] (j,o))(hJ:o=(((trN s.2.2.2.2 (s.2.2.2.2.getD 0 []).length).getD i []).take j).map v7/\j<=((trN s.2.2.2.2 (s.2.2.2.2.getD 0 []).length).getD i []).length)=>have hv6:=(show j<=1048576 from hb3.1);have hv7:=(show o.length<=16 from hb3.2.1.1);have hJi:=hJ.2;have hol:=(show o.length=j by rw[hJ.1,q6P,q6R];omega);Sp (j<((trN s.2.2.2.2 (s.2.2.2.2.getD 0 []).length).getD i []).length) (λh4=>I (by(try simp only[q6M,q6N,q6Q])<;>omega:j<((trN s.2.2.2.2 (s.2.2.2.2.getD 0 []).length).getD i []).length) (I (?_:o.length=o.length) (I (show(j+1)<=1048576 by omega:Bnd (.nat .i64) (.n 1048576) (j+1)) (I (rfl:([(.dt (.int .i64) (.n 6) s.1),(.dt (.sl .rat) (.s 16 (.n 6)) s.2.2.1)]:List WA)=[(.dt (.int .i64) (.n 6) s.1),(.dt (.sl .rat) (.s 16 (.n 6)) s.2.2.1)]) (I (rfl:([]:List WA)=[]) (I (by(try simp only[q6M,q6N,q6Q])<;>omega:o.length+[zg (((trN s.2.2.2.2 (s.2.2.2.2.getD 0 []).length).getD i []).getD j ((0,(0,0)),0))].length=(o++[zg (((trN s.2.2.2.2 (s.2.2.2.2.getD 0 []).length).getD i []).getD j ((0,(0,0)),0))]).length) (I (by(try simp only[q6M,q6N,q6Q])<;>omega:o.length+[zg (((trN s.2.2.2.2 (s.2.2.2.2.getD 0 []).length).getD i []).getD j ((0,(0,0)),0))].length<=16) (q6q (⟨map_s (by omega) hJ.1,by omega⟩:o++[zg (((trN s.2.2.2.2 (s.2.2.2.2.getD 0 []).length).getD i []).getD j ((0,(0,0)),0))]=(((trN s.2.2.2.2 (s.2.2.2.2.getD 0 []).length).getD i []).take (j+1)).map v7/\(j+1)<=((trN s.2.2.2.2 (s.2.2.2.2.getD 0 []).length).getD i []).length) (?_:((trN s.2.2.2.2 (s.2.2.2.2.getD 0 []).length).getD i []).length-(j+1)<((trN s.2.2.2.2 (s.2.2.2.2.getD 0 []).length).getD i []).length-j))))))))) (λh5=>I (?_:o.length=o.length) (I (?_:l.length=l.length) (I (show(i+1)<=1048576 by omega:Bnd (.nat .i64) (.n 1048576) (i+1)) (I (by(try simp only[q6M,q6N,q6Q])<;>omega:l.length+[(s.1,s.2.2.1,o)].length=(l++[(s.1,s.2.2.1,o)]).length) (I (by(try simp only[q6M,q6N,q6Q])<;>omega:l.length+[(s.1,s.2.2.1,o)].length<=1048576) (q6q (⟨q3Z hI.1 (by omega) hJ.1 h5,by omega⟩:l++[(s.1,s.2.2.1,o)]=auN s (i+1)/\(i+1)<=(trN s.2.2.2.2 (s.2.2.2.2.getD 0 []).length).length) (?_:(trN s.2.2.2.2 (s.2.2.2.2.getD 0 []).length).length-(i+1)<(trN s.2.2.2.2 (s.2.2.2.2.getD 0 []).length).length-i))))))))))))) (λh8=>I (?_:l.length=l.length) ((by rw[hI.1,show i=(s.2.2.2.2.getD 0 []).length by omega]:l=auN s (s.2.2.2.2.getD 0 []).length)))))))))⟩<;>omega)
abbrev Hi:Ctr Tryz.prog:=FI.c q5y
section
def PosS(s:qP):Prop:= ∀l∈s.2.2.2.2,∀p∈l,0<p.2
def vE(s:qP)(l:List ju):Prop:=((l.length:Nat):Int)=(s.2.2.2.1.length:Int) -s.2.1-1
instance(s:qP)(l:List ju):Decidable (vE s l):=by unfold vE;infer_instance
def rowB(s:qP):Nat->Bool
 |0=>true
 |n+1=>rowB s n&&decide (vE s (s.2.2.2.2.getD n []))
def chkS(s:qP):Int:=
 if qM s.2.2.1 s.1≠0 then qM s.2.2.1 s.1 else if qM s.2.2.2.1 s.2.1≠0 then qM s.2.2.2.1 s.2.1 else
 if((s.2.2.2.2.length:Nat):Int)≠(s.2.2.1.length:Int) -s.1-1 then 1 else if rowB s s.2.2.2.2.length=false then 1 else 0
theorem O9(s:qP):(chkS s).natAbs<=8:=by
 have h1:=GE s.2.2.1 s.1;have h2:=GE s.2.2.2.1 s.2.1;unfold chkS;split
 .omega
 split
 .omega
 split
 .decide
 split<;>decide
section
variable {s:qP}
theorem RZ{n:Nat}(h:rowB s n=true)(k:vE s (s.2.2.2.2.getD n [])):rowB s (n+1)=true:=by rw[rowB,h,decide_eq_true k];rfl
theorem WR{n m:Nat}(k: ¬vE s (s.2.2.2.2.getD n []))(hm:n<m):rowB s m=false:=by
 induction m with
 |zero=>omega
 |succ m ih=>
  by_cases e:n=m
  .subst e;rw[rowB,decide_eq_false k,Bool.and_false]
  .rw[rowB,ih (by omega),Bool.false_and]
theorem SW(h:qM s.2.2.1 s.1≠0):qM s.2.2.1 s.1=chkS s:=by rw[chkS,if_pos h]
theorem SX(h: ¬qM s.2.2.1 s.1≠0)(h2:qM s.2.2.2.1 s.2.1≠0):qM s.2.2.2.1 s.2.1=chkS s:=by rw[chkS,if_neg h,if_pos h2]
theorem SY(h: ¬qM s.2.2.1 s.1≠0)(h2: ¬qM s.2.2.2.1 s.2.1≠0)(h3:((s.2.2.2.2.length:Nat):Int)≠(s.2.2.1.length:Int) -s.1-1):1=chkS s:=by rw[chkS,if_neg h,if_neg h2,if_pos h3]
theorem SZ(h: ¬qM s.2.2.1 s.1≠0)(h2: ¬qM s.2.2.2.1 s.2.1≠0)(h3: ¬((s.2.2.2.2.length:Nat):Int)≠(s.2.2.1.length:Int) -s.1-1)(h4:rowB s s.2.2.2.2.length=false):1=chkS s:=by rw[chkS,if_neg h,if_neg h2,if_neg h3,if_pos h4]
theorem MJ(h: ¬qM s.2.2.1 s.1≠0)(h2: ¬qM s.2.2.2.1 s.2.1≠0)(h3: ¬((s.2.2.2.2.length:Nat):Int)≠(s.2.2.1.length:Int) -s.1-1)(h4:rowB s s.2.2.2.2.length=true):0=chkS s:=by rw[chkS,if_neg h,if_neg h2,if_neg h3,if_neg (by rw[h4];simp)]
theorem gtD{α:Type}{l:List α}{i:Nat}{d:α}(h:i<l.length):l.getD i d=l[i]:=by rw[q6E,q6I h];rfl
theorem posS{i j:Nat}(h:PosS s)(hi:i<s.2.2.2.2.length)(hj:j<(s.2.2.2.2.getD i []).length): ¬jb ((s.2.2.2.2.getD i []).getD j ((0,0,0),0)).2<=0:=by
 have e1:s.2.2.2.2.getD i []=s.2.2.2.2[i]:=gtD hi;have e2:(s.2.2.2.2.getD i []).getD j ((0,0,0),0)=(s.2.2.2.2.getD i [])[j]:=gtD hj;have h1:s.2.2.2.2.getD i []∈s.2.2.2.2:=by rw[e1];exact List.getElem_mem _
 have h2:(s.2.2.2.2.getD i []).getD j ((0,0,0),0)∈s.2.2.2.2.getD i []:=by rw[e2];exact List.getElem_mem _
 have h3:=h _ h1 _ h2;intro hs;generalize((s.2.2.2.2.getD i []).getD j ((0,0,0),0)).2=x at hs h3;unfold jb at hs;split at hs
 .rename_i e;have e0:=wP e;subst e0;exact absurd h3 (by decide)
 .split at hs
  .rename_i e;have:=Rat.num_nonneg.2 (Rat.le_of_lt h3);omega
  .exact absurd hs (by decide)
theorem Id{l:List (List ju)}{m:Nat}(h: ∀x∈l,x.length<=m)(i:Nat):(l.getD i []).length<=m:=by
 by_cases hi:i<l.length
 .have e1:l.getD i []=l[i]:=gtD hi
  rw[e1];exact h _ (List.getElem_mem _)
 .rw[show l.getD i []=[] by simp[List.getD,hi]];exact q7G _
end
def lenS(l:List (List Rat)):Nat->Nat
 |0=>0
 |n+1=>lenS l n+(l.getD n []).length
def catN(l:List (List Rat)):Nat->List Rat
 |0=>[]
 |n+1=>catN l n++l.getD n []
theorem Dq(l:List (List Rat)): ∀n,(catN l n).length=lenS l n
 |0=>rfl
 |n+1=>by rw[catN,q6M,Dq l n];rfl
theorem q0u{l:List (List Rat)}{b:Bd}(h:Bnd (.sl (.sl .rat)) b l): ∀v∈catN l l.length,Bnd .rat (.n b.mx) v:=by
 have key: ∀n,n<=l.length-> ∀v∈catN l n,Bnd .rat (.n b.mx) v:=by
  intro n
  induction n with
  |zero=>intro _ v hv;cases hv
  |succ n ih=>
   intro hn v hv;rcases q6T.1 hv with hv|hv
   .exact ih (by omega) v hv
   .have e:l.getD n []=l[n]:=gtD (by omega)
    have h1:=h.sl.2 (l.getD n []) (by rw[e];exact List.getElem_mem _);have h2:=h1.slm.2 v hv;have:=b.e_mx;exact qE h2 (by omega)
 exact key _ (q7j _)
theorem N6{a c:List Rat}(h:a.length+c.length<=64): ∀i,lenS [a,c] i<=64
 |0=>q7G _
 |1=>by simp[lenS];omega
 |2=>by simp[lenS];omega
 |n+3=>by
  have:=N6 h (n+2);rw[lenS];simpa using this
def SmS(s:qP):Prop:=s.2.2.2.2.length<=32/\ ∀i,(s.2.2.2.2.getD i []).length<=32
def numR(s:qP):Nat->List Rat
 |0=>catN [s.2.2.1,s.2.2.2.1] 2
 |n+1=>numR s n++numN (s.2.2.2.2.getD n []) (s.2.2.2.2.getD n []).length
theorem G4{s:qP}(h:SmS s)(hk:s.2.2.1.length+s.2.2.2.1.length<=64): ∀n,(numR s n).length<=64+128*n
 |0=>by rw[numR,Dq];exact N6 hk 2
 |n+1=>by
  have h1:=G4 h hk n;have h2:=h.2 n;rw[numR,q6M,G3];omega
theorem q1s{s:qP}(hk:s.2.2.1.length+s.2.2.2.1.length<=64)(h:SmS s):(numR s s.2.2.2.2.length).length<=4194304:=by
 have h1:=G4 h hk s.2.2.2.2.length;have:=h.1;omega
theorem Pe{s:qP}{b:Bd}(h:Bnd qR b s): ∀n,∀v∈numR s n,Bnd .rat (.n b.mx) v:=by
 have h1:=h.pr.2.pr.2.pr;have h2:=h1.1.slm;have h3:=h1.2.pr.1.slm;have h4:=h1.2.pr.2.sl;have m1:=b.r_mx;have m2:=b.r.r_mx;have m3:=b.r.r.l_mx;have m4:=b.r.r.r_mx;have m5:=b.r.r.r.l_mx;have m6:=b.r.r.r.r_mx;have m7:=b.r.r.r.r.e_mx;have m8:=b.r.r.r.r.e.e_mx
 intro n
 induction n with
 |zero=>
  intro v hv;rcases q6T.1 hv with hv|hv
  .rcases q6T.1 hv with hv|hv
   .cases hv
   .exact qE (h2.2 v hv) (by omega)
  .exact qE (h3.2 v hv) (by omega)
 |succ n ih=>
  intro v hv;rcases q6T.1 hv with hv|hv
  .exact ih v hv
  .by_cases hn:n<s.2.2.2.2.length
   .have e:s.2.2.2.2.getD n []=s.2.2.2.2[n]:=gtD hn
    have h5:=h4.2 (s.2.2.2.2.getD n []) (by rw[e];exact List.getElem_mem _);exact qE (Pd h5.sl.2 _ (q7j _) v hv) (by omega)
   .rw[show s.2.2.2.2.getD n []=[] by simp[List.getD,hn]]at hv;cases hv
theorem Pg{s:qP}{b:Bd}(h:Bnd qR b s)(hb:b.mx<=2047:=by decide)(hf:0<=fidx (λj=>decide (2048<ve ((numR s s.2.2.2.2.length).getD j 0))) 0 (numR s s.2.2.2.2.length).length):False:=by
 obtain⟨j,_,h2,h3⟩:=EW.1 hf;have h3:=of_decide_eq_true h3;have:=FN (w7 (Pe h s.2.2.2.2.length) j);omega
def rcS(s:qP):Bool:=decide (((s.2.2.2.2.length:Nat):Int)=(s.2.2.1.length:Int) -s.1-1)&&!decide (0<=fidx (λj=>decide (¬vE s (s.2.2.2.2.getD j []))) 0 s.2.2.2.2.length)
theorem DQ{s:qP}: ∀{n:Nat},rowB s n=true↔ ∀j,j<n->vE s (s.2.2.2.2.getD j [])
 |0=>⟨λ_ j h=>by omega,λ_=>rfl⟩
 |n+1=>by
  rw[rowB,q6s,DQ (n:=n),decide_eq_true_iff]
  exact⟨λ⟨h1,h2⟩ j hj=>by
   by_cases e:j=n
   .rw[e];exact h2
   .exact h1 j (by omega),λh=>⟨λj hj=>h j (by omega),h n (by omega)⟩⟩
theorem Ib{s:qP}:rcS s=true↔((s.2.2.2.2.length:Nat):Int)=(s.2.2.1.length:Int) -s.1-1/\rowB s s.2.2.2.2.length=true:=by
 unfold rcS;rw[q6s,decide_eq_true_iff,DQ,q6u,decide_eq_false_iff_not,EW];refine and_congr_right λ_=>⟨λh j hj=>Classical.byContradiction λhw=>h ⟨j,q7G _,by omega,decide_eq_true hw⟩,λh⟨j,_,h2,h3⟩=>of_decide_eq_true h3 (h j (by omega))⟩
theorem q5H{s:qP}(h:((s.2.2.2.2.length:Nat):Int)=(s.2.2.1.length:Int) -s.1-1):(!decide (0<=fidx (λj=>decide (¬vE s (s.2.2.2.2.getD j []))) 0 s.2.2.2.2.length))=rcS s:=by
 rw[rcS,decide_eq_true h,Bool.true_and]
theorem q5I{s:qP}(h: ¬((s.2.2.2.2.length:Nat):Int)=(s.2.2.1.length:Int) -s.1-1):false=rcS s:=by
 rw[rcS,decide_eq_false h,Bool.false_and]
section
variable {s:qP}
theorem q4p(h: ¬qM s.2.2.1 s.1≠0)(h2: ¬qM s.2.2.2.1 s.2.1≠0)(h3:(!(rcS s))=true):1=chkS s:=by
 by_cases e:((s.2.2.2.2.length:Nat):Int)=(s.2.2.1.length:Int) -s.1-1
 .refine SZ h h2 (by simpa using e) ?_
  cases hb:rowB s s.2.2.2.2.length with
  |false=>rfl
  |true=>rw[Ib.2 ⟨e,hb⟩]at h3;cases h3
 .exact SY h h2 e
theorem q4q(h: ¬qM s.2.2.1 s.1≠0)(h2: ¬qM s.2.2.2.1 s.2.1≠0)(h3: ¬(!(rcS s))=true):0=chkS s:=by
 obtain⟨e,hb⟩:=Ib.1 (by simpa using h3);exact MJ h h2 (by simpa using e) hb
theorem posW{i:Nat}(h:PosS s)(hi:i<s.2.2.2.2.length)(hf:0<=fidx (λj=>decide (jb ((s.2.2.2.2.getD i []).getD j ((0,(0,0)),0)).2<=0)) 0 (s.2.2.2.2.getD i []).length):False:=by
 obtain⟨j,_,h2,h3⟩:=EW.1 hf;exact posS h hi (by omega) (of_decide_eq_true h3)
end
end
def isoH(s:qP)(t:Rat):Nat->List F4
 |0=>[]
 |n+1=>isoH s t n++[homV (rowC (qF s) n) t]
theorem C9(s:qP)(t:Rat): ∀n,(isoH s t n).length=n
 |0=>rfl
 |n+1=>by simp only[isoH,q6M,C9 s t n,q6N,q6Q]
theorem In(s:qP): ∀n i,i<n->(swN s n).getD i []=colN s i s.2.2.2.2.length
 |n+1,i,h=>by
  rw[swN,DF (BS s n) h];split
  .exact In s n i (by assumption)
  .rw[show i=n by omega]
theorem LD{s:qP}{i:Nat}(h:i<(j3 s 0).length):auC s i=spC (rowC (qF s) i):=by
 have e:j3 (qF s) i=colN s i s.2.2.2.2.length:=by
  show(swN s (j3 s 0).length).getD i []=_;exact In s _ i h
 show(s.1,s.2.2.1,(colR s.2.2.2.2 i s.2.2.2.2.length).map v7)=((qF s).2.1,(qF s).2.2.2.1,(j3 (qF s) i).map v7);rw[e,LO];rfl
theorem LS{s:qP}{t:Rat}{i:Nat}(hO: ¬ivO s.2.2.1 t)(h:i<(j3 s 0).length):evS (auC s i) t=homV (rowC (qF s) i) t:=by
 rw[LD h,T6,if_neg (show¬ivO (rowC (qF s) i).2.1 t from hO)]
structure IsP (s:qP) (t:Rat):Prop where
 sb:Bnd qR bSfl s
 r0:0<s.2.2.2.2.length
 rc: ∀i,i<s.2.2.2.2.length->(j3 s i).length=(j3 s 0).length
 ku:qM s.2.2.1 s.1=0
 kv:qM s.2.2.2.1 s.2.1=0
 rs:rcS s=true
 ip:IpO s.2.2.1 s.1.toNat
 O: ¬ivO s.2.2.1 t
 iso:IsO (qF s) t
theorem Io(s:qP):(qF s).2.2.2.2.length=(j3 s 0).length:=BS s _
theorem IsP.sp{s:qP}{t:Rat}(h:IsP s t){i:Nat}(hi:i<(j3 s 0).length):SpO (auC s i) t:=by
 rw[LD hi];exact PQ (h.iso.ev i (by rw[Io];exact hi)) h.ip
theorem q10{s:qP}{t:Rat}{n i:Nat}{l:List F4}(h:l=isoH s t i)(hO: ¬ivO s.2.2.1 t)(hi:i<(j3 s 0).length)(hn:(j3 s 0).length=n):l++[evS ((auN s n).getD i (0,[],[])) t]=isoH s t (i+1):=by
 rw[CW s n i _ (by omega),LS hO hi,h];rfl
theorem OR(s:qP)(t:Rat): ∀n,(isoH s t n).map jw=isoP (qF s) t n
 |0=>rfl
 |n+1=>by rw[isoH,List.map_append,OR s t n];rfl
def jH(s:qP)(t:Rat):Spl:=(s.2.1,s.2.2.2.1,isoH s t (j3 s 0).length)
theorem Jg{k:List Rat}{t:Rat}(h: ¬ivO k t):jv k t=0:=by rw[jv,if_neg h]
theorem q12{s:qP}{t:Rat}(h: ¬ivO s.2.2.1 t):(s.2.1,s.2.2.2.1,(isoH s t (j3 s 0).length).map jw)=(ja (qF s) t).1:=by
 unfold ja;rw[if_neg (show¬jv (qF s).2.2.2.1 t≠0 from λg=>g (Jg h)),OR,Io];rfl
theorem q14{s:qP}{t:Rat}(h: ¬ivO s.2.2.1 t):0=(ja (qF s) t).2:=by
 unfold ja;rw[if_neg (show¬jv (qF s).2.2.2.1 t≠0 from λg=>g (Jg h))]
abbrev bIsS:Bd:= .p (.n 6) (.p (.s 16 (.n 6)) (.s 16 (bF4 33554432)))
theorem OQ{s:qP}{t:Rat}(h:IsP s t): ∀n,n<=(j3 s 0).length-> ∀p∈isoH s t n,Bnd jB (bF4 33554432) p
 |0,_,p,hp=>by cases hp
 |n+1,hn,p,hp=>by
  simp only[isoH,q6T,q70]at hp;rcases hp with hp|hp
  .exact OQ h n (by omega) p hp
  .rw[hp,<-LS h.O (by omega)];exact T5 (h.sp (by omega))
theorem OS{s:qP}{t:Rat}(h:IsP s t):Bnd jm bIsS (jH s t):=
 ⟨h.sb.2.1,h.sb.2.2.2.1,by show(isoH _ _ _).length<=16;rw[C9];exact(AR h.sb 0).1,OQ h _ (q7j _)⟩
theorem q4T{s:qP}{t:Rat}(h:IsO s t):Bnd AU bIso (ja s t).1:=by
 unfold ja;split
 .exact⟨(by decide:Int.natAbs 0<=6),⟨q7G _,λx hx=>by cases hx⟩,q7G _,λx hx=>by cases hx⟩
 .refine⟨h.sb.1,h.sb.2.2.1,?_,GV h _ (q7j _)⟩
  show(isoP s t s.2.2.2.2.length).length<=16;rw[Ca];exact h.sb.2.2.2.2.1
theorem Kl(s:qP)(t:Rat): ∀n i d,i<n->(isoH s t n).getD i d=homV (rowC (qF s) i) t
 |n+1,i,d,h=>by
  rw[isoH,DF (C9 s t n) h];split
  .exact Kl s t n i d (by assumption)
  .rw[show i=n by omega]
theorem Vr{s:qP}{t:Rat}(h:IsP s t){i:Nat}(hi:i<(jH s t).2.2.length):Bnd qr (jK 200000) (jw ((jH s t).2.2.getD i (0,0,0,0))):=by
 have e:(jH s t).2.2.length=(j3 s 0).length:=C9 s t _;show Bnd qr (jK 200000) (jw ((isoH s t (j3 s 0).length).getD i (0,0,0,0)));rw[Kl s t _ i _ (by omega)];exact h.iso.pb i (by rw[Io];omega)
theorem map_d{ps:List F4}{i:Nat}(hi:i<ps.length){o:List ju}(h:o=(ps.take i).map jw):o++[jw (ps.getD i (0,0,0,0))]=(ps.take (i+1)).map jw:=by
 rw[h,wT (d:=(0,0,0,0)) hi,List.map_append];rfl
theorem q13{s:qP}{t:Rat}(h:IsP s t){i:Nat}{l:List ju}(hl:l=((jH s t).2.2.take i).map jw)(hi: ¬i<(jH s t).2.2.length):((jH s t).1,(jH s t).2.1,l)=(ja (qF s) t).1:=by
 rw[hl,q75 (by omega)];exact q12 h.O
abbrev S6:FI:=⟨57,[(.pr (.int .i64) (.pr (.int .i64) (.pr (.sl .rat) (.pr (.sl .rat) (.sl (.sl (.pr (.pr .rat (.pr .rat .rat)) .rat)))))))],[(.p (.n 8) (.p (.n 8) (.p (.s 32 (.n 1000)) (.p (.s 32 (.n 1000)) (.s 32 (.s 32 (.p (.p (.n 1000) (.p (.n 1000) (.n 1000))) (.n 1000))))))))],λz=>(λ(x:Int×Int×List Rat×List Rat×List (List ((Rat×Rat×Rat)×Rat)))=>[PosS x]) z,λb z=>(λ(x:Int×Int×List Rat×List Rat×List (List ((Rat×Rat×Rat)×Rat)))=> .c (.one (.dt (.int .i64) (.n 8) (chkS x)))) z⟩
theorem S7:S6.OK Tryz.prog:=qB hmix 162 Tryz.func57 rfl rfl (by decide) [(16,.c Fx),(107,.c Ql),(108,.c Sq),(109,.c Gn),(110,.c R6),(111,.c Kr),(112,.c Rc)] (λ(x:Int×Int×List Rat×List Rat×List (List ((Rat×Rat×Rat)×Rat))) b hx hp=>qa (O9 x) rfl) (λ(x:Int×Int×List Rat×List Rat×List (List ((Rat×Rat×Rat)×Rat))) hx hp=>by
 have hp0:PosS x:=hp _ (q6W);have hpl:x.2.2.2.2.length<=32:=hx.2.2.2.2.1;have hrw:=Id λl hl=>(hx.2.2.2.2.2 l hl).1
 refine⟨.loop [.s 3 (.nat .i64) (.n 1048576)] (λ(i:Nat)=>i<=x.2.2.2.2.length) (λ(i:Nat)=>x.2.2.2.2.length-i) (λ(i:Nat)=> .cond (.loop [.s 4 (.nat .i64) (.n 1048576)] (λ(j:Nat)=>j<=(x.2.2.2.2.getD i []).length) (λ(j:Nat)=>(x.2.2.2.2.getD i []).length-j) (λ(j:Nat)=> .nil)) (.cond (.nil) (.cond (.nil) (.cond (.nil) (.loop [.s 7 (.nat .i64) (.n 1048576)] (λ(r:Nat)=>rowB x r=true/\r<=x.2.2.2.2.length) (λ(r:Nat)=>x.2.2.2.2.length-r) (λ(r:Nat)=> .cond (.nil) (.loop [.s 9 (.nat .i64) (.n 1048576),.s 8 .bool .u] (λ((i,b):Nat×Bool)=>b=true/\i<=x.2.2.2.2.length) (λ((i,b):Nat×Bool)=>x.2.2.2.2.length-i) (λ((i,b):Nat×Bool)=> .cond (.loop [.s 10 (.nat .i64) (.n 1048576),.s 8 .bool .u] (λ((j,c):Nat×Bool)=>c=true/\j<=(x.2.2.2.2.getD i []).length) (λ((j,c):Nat×Bool)=>(x.2.2.2.2.getD i []).length-j) (λ((j,c):Nat×Bool)=> .cond (.cond (.dead) (.cond (.h 34 13 (.mk (.im .rat (.n 1000))) (.nil)) (.dead))) (.nil))) (.cond (.dead) (.nil)))))))))),kcast (by kernel_rfl) (I (q7G _:0<=x.2.2.2.2.length) (λ(i:Nat)(hb1:HB [.s 3 (.nat .i64) (.n 1048576)] i)(hA:i<=x.2.2.2.2.length)=>have hv34:=(show i<=1048576 from hb1);have hrl:=hrw i;Sp (i<x.2.2.2.2.length) (λh2=>I (q7G _:0<=(x.2.2.2.2.getD i []).length) (λ(j:Nat)(hb3:HB [.s 4 (.nat .i64) (.n 1048576)] j)(hB:j<=(x.2.2.2.2.getD i []).length)=>have hv6:=(show j<=1048576 from hb3);have hrl:=hrw i;I (?_:i<x.2.2.2.2.length) (Sp (j<(x.2.2.2.2.getD i []).length) (λh4=>I (?_:i<x.2.2.2.2.length) (I (by(try simp only[q6M,q6N,q6Q])<;>omega:j<(x.2.2.2.2.getD i []).length) (I (?_:i<x.2.2.2.2.length) (I (by(try simp only[q6M,q6N,q6Q])<;>omega:j<(x.2.2.2.2.getD i []).length) (I (show(j+1)<=1048576 by omega:Bnd (.nat .i64) (.n 1048576) (j+1)) (q6q ((by omega):(j+1)<=(x.2.2.2.2.getD i []).length) (?_:(x.2.2.2.2.getD i []).length-(j+1)<(x.2.2.2.2.getD i []).length-j))))))) (λh5=>I (show(i+1)<=1048576 by omega:Bnd (.nat .i64) (.n 1048576) (i+1)) (q6q ((by omega):(i+1)<=x.2.2.2.2.length) (?_:x.2.2.2.2.length-(i+1)<x.2.2.2.2.length-i)))))) (λh7=>Sp (qM x.2.2.1 x.1≠0) (λh8=>(SW h8:qM x.2.2.1 x.1=chkS x)) (λh9=>Sp (qM x.2.2.2.1 x.2.1≠0) (λh10=>(SX h9 h10:qM x.2.2.2.1 x.2.1=chkS x)) (λh11=>Sp (((x.2.2.2.2.length:Nat):Int)≠((x.2.2.1.length:Nat):Int) -x.1-1) (λh12=>(SY h9 h11 h12:1=chkS x)) (λh13=>I (⟨rfl,q7G _⟩:rowB x 0=true/\0<=x.2.2.2.2.length) (λ(r:Nat)(hb14:HB [.s 7 (.nat .i64) (.n 1048576)] r)(hR:rowB x r=true/\r<=x.2.2.2.2.length)=>have hv33:=(show r<=1048576 from hb14);have hRi:=hR.2;Sp (r<x.2.2.2.2.length) (λh15=>I (?_:r<x.2.2.2.2.length) (Sp ((((x.2.2.2.2.getD r []).length:Nat):Int)≠((x.2.2.2.1.length:Nat):Int) -x.2.1-1) (λh16=>(SZ h9 h11 h13 (WR (n:=r) (by unfold vE;omega) (by omega)):1=chkS x)) (λh17=>I (show(r+1)<=1048576 by omega:Bnd (.nat .i64) (.n 1048576) (r+1)) (q6q (⟨RZ hR.1 (by unfold vE;omega),by omega⟩:rowB x (r+1)=true/\(r+1)<=x.2.2.2.2.length) (?_:x.2.2.2.2.length-(r+1)<x.2.2.2.2.length-r))))) (λh18=>I (⟨rfl,q7G _⟩:true=true/\0<=x.2.2.2.2.length) (λ(i:Nat)(b:Bool)(hb19:HB [.s 9 (.nat .i64) (.n 1048576),.s 8 .bool .u] (i,b))(hZ:b=true/\i<=x.2.2.2.2.length)=>have hv32:=(show i<=1048576 from hb19.1);have hZi:=hZ.2;have hrl:=hrw i;Sp (i<x.2.2.2.2.length) (λh20=>I (⟨hZ.1,q7G _⟩:b=true/\0<=(x.2.2.2.2.getD i []).length) (λ(j:Nat)(c:Bool)(hb21:HB [.s 10 (.nat .i64) (.n 1048576),.s 8 .bool .u] (j,c))(hY:c=true/\j<=(x.2.2.2.2.getD i []).length)=>have hv28:=(show j<=1048576 from hb21.1);have hYj:=hY.2;I (?_:i<x.2.2.2.2.length) (Sp (j<(x.2.2.2.2.getD i []).length) (λh22=>I (?_:i<x.2.2.2.2.length) (I (by(try simp only[q6M,q6N,q6Q])<;>omega:j<(x.2.2.2.2.getD i []).length) (Sp (jb (((x.2.2.2.2.getD i []).getD j ((0,(0,0)),0)).2)<=0) (λh23=>(absurd h23 (posS hp0 (by omega) (by omega)):False)) (λh24=>Sp (c=true) (λh25=>I (show(j+1)<=1048576 by omega:Bnd (.nat .i64) (.n 1048576) (j+1)) (q6q (⟨rfl,by omega⟩:true=true/\(j+1)<=(x.2.2.2.2.getD i []).length) (?_:(x.2.2.2.2.getD i []).length-(j+1)<(x.2.2.2.2.getD i []).length-j))) (λh26=>(absurd hY.1 h26:False)))))) (λh27=>I (show(i+1)<=1048576 by omega:Bnd (.nat .i64) (.n 1048576) (i+1)) (q6q (⟨hY.1,by omega⟩:c=true/\(i+1)<=x.2.2.2.2.length) (?_:x.2.2.2.2.length-(i+1)<x.2.2.2.2.length-i)))))) (λh29=>Sp ((!b)=true) (λh30=>(by have:=hZ.1;simp_all:False)) (λh31=>(MJ h9 h11 h13 (by rw[show x.2.2.2.2.length=r by omega];exact hR.1):0=chkS x))))))))))))⟩<;>omega)
abbrev S5:Ctr Tryz.prog:=FI.c S7
abbrev q65:FI:=⟨80,[.rat],[(.n 68719476736)],λ_=>[],λb z=> .c (.one (.vl (.bool false)))⟩
theorem q66:q65.OK Tryz.prog:=qB hmix 6 Tryz.func80 rfl rfl (by decide) [(81,.c KQ)] (λ(x:Rat) b hx hp=>AX rfl) (λ(x:Rat) hx hp=>by
 refine⟨.nil,kcast (by kernel_rfl) (trivial)⟩)
abbrev q64:Ctr Tryz.prog:=FI.c q66
abbrev q68:FI:=⟨85,[(.pr (.pr .rat (.pr .rat .rat)) .rat)],[(.p (.p (.n 68719476736) (.p (.n 68719476736) (.n 68719476736))) (.n 68719476736))],λ_=>[],λb z=>(λ(p:(Rat×Rat×Rat)×Rat)=> .c (.one (.dt .bool .u (decide (jb p.2<=0))))) z⟩
theorem q69:q68.OK Tryz.prog:=qB hmix 7 Tryz.func85 rfl rfl (by decide) [(86,.c If)] (λ(p:(Rat×Rat×Rat)×Rat) b hx hp=>qa trivial rfl) (λ(p:(Rat×Rat×Rat)×Rat) hx hp=>by
 refine⟨.nil,kcast (by kernel_rfl) ((Eq.refl (decide (jb p.2<=0))))⟩)
abbrev q67:Ctr Tryz.prog:=FI.c q69
abbrev q6b:FI:=⟨87,[.rat],[(.n 68719476736)],λ_=>[],λb z=>(λ(x:Rat)=> .c (.one (.dt .bool .u (decide (2048<ve x))))) z⟩
theorem q6c:q6b.OK Tryz.prog:=qB hmix 6 Tryz.func87 rfl rfl (by decide) [(88,.c WJ)] (λ(x:Rat) b hx hp=>qa trivial rfl) (λ(x:Rat) hx hp=>by
 refine⟨.nil,kcast (by kernel_rfl) ((decide_eq_decide.2 (by unfold ve;omega):decide (2048<max ((bl x.num.natAbs:Nat):Int) ((bl x.den:Nat):Int))=decide (2048<ve x)))⟩)
abbrev q6a:Ctr Tryz.prog:=FI.c q6c
abbrev q2Y:FI:=⟨141,[(.sl .rat),(.fn 80)],[(.s 8388608 (.n 68719476736)),.u],λ_=>[],λb z=> .c (.one (.kn .i64 (-1)))⟩
theorem q2Z:q2Y.OK Tryz.prog:=qB hmix 19 Tryz.func141 rfl rfl (by decide) [(80,.c q64)] (λ(l:List Rat)(u:Unit) b hx hp=>AQ) (λ(l:List Rat)(u:Unit) hx hp=>by
 have hl0:l.length<=8388608:=hx.1.1
 refine⟨.loop [.s 8 (.nat .i64) (.n 8388608)] (λ(i:Nat)=>i<=l.length) (λ(i:Nat)=>l.length-i) (λ(i:Nat)=> .nil),kcast (by kernel_rfl) (I (q7G _:0<=l.length) (λ(i:Nat)(hb1:HB [.s 8 (.nat .i64) (.n 8388608)] i)(hI:i<=l.length)=>have hv4:=(show i<=8388608 from hb1);Sp (i<l.length) (λh2=>I (?_:i<l.length) (I (show(i+1)<=8388608 by omega:Bnd (.nat .i64) (.n 8388608) (i+1)) (q6q ((by omega):(i+1)<=l.length) (?_:l.length-(i+1)<l.length-i)))) (λh3=>trivial)))⟩<;>omega)
abbrev q2X:Ctr Tryz.prog:=FI.c q2Z
abbrev q2V:FI:=⟨79,[(.sl .rat),(.fn 80)],[(.s 8388608 (.n 68719476736)),.u],λ_=>[],λb z=> .c (.one (.vl (.bool false)))⟩
theorem q2W:q2V.OK Tryz.prog:=qB hmix 9 Tryz.func79 rfl rfl (by decide) [(141,.c q2X)] (λ(l:List Rat)(u:Unit) b hx hp=>AX rfl) (λ(l:List Rat)(u:Unit) hx hp=>by
 refine⟨.nil,kcast (by kernel_rfl) (trivial)⟩)
abbrev q2U:Ctr Tryz.prog:=FI.c q2W
abbrev q2S:FI:=⟨141,[(.sl .rat),(.fn 87)],[(.s 8388608 (.n 68719476736)),.u],λ_=>[],λb z=>(λ(l:List Rat)(u:Unit)=> .c (.one (.dt (.int .i64) (.n ((b0 b).len+1)) (fidx (λj=>decide (2048<ve (l.getD j 0))) 0 l.length)))) z.1 z.2⟩
theorem q2T:q2S.OK Tryz.prog:=qB hmix 19 Tryz.func141 rfl rfl (by decide) [(87,.c q6a)] (λ(l:List Rat)(u:Unit) b hx hp=>qa (show Int.natAbs (fidx (λj=>decide (2048<ve (l.getD j 0))) 0 l.length)<=(b0 b).len+1 from by have h1:=GM (λj=>decide (2048<ve (l.getD j 0))) l.length 0;have h2:=(Bnds.h2 hx).1.sl.1;omega) rfl) (λ(l:List Rat)(u:Unit) hx hp=>by
 have hl0:l.length<=8388608:=hx.1.1
 refine⟨.loop [.s 8 (.nat .i64) (.n 8388608)] (λ(i:Nat)=>fidx (λj=>decide (2048<ve (l.getD j 0))) i (l.length-i)=fidx (λj=>decide (2048<ve (l.getD j 0))) 0 l.length/\i<=l.length) (λ(i:Nat)=>l.length-i) (λ(i:Nat)=> .nil),kcast (by kernel_rfl) (I (⟨rfl,q7G _⟩:fidx (λj=>decide (2048<ve (l.getD j 0))) 0 (l.length-0)=fidx (λj=>decide (2048<ve (l.getD j 0))) 0 l.length/\0<=l.length) (λ(i:Nat)(hb1:HB [.s 8 (.nat .i64) (.n 8388608)] i)(hI:fidx (λj=>decide (2048<ve (l.getD j 0))) i (l.length-i)=fidx (λj=>decide (2048<ve (l.getD j 0))) 0 l.length/\i<=l.length)=>have hv6:=(show i<=8388608 from hb1);have hIi:=hI.2;Sp (i<l.length) (λh2=>I (?_:i<l.length) (Sp (decide (2048<ve (l.getD i 0))=true) (λh3=>(FW hI.1 (by omega) (show decide (2048<ve (l.getD i 0))=true from h3):(i:Int)=fidx (λj=>decide (2048<ve (l.getD j 0))) 0 l.length)) (λh4=>I (show(i+1)<=8388608 by omega:Bnd (.nat .i64) (.n 8388608) (i+1)) (q6q (⟨HT hI.1 (by omega) (show¬decide (2048<ve (l.getD i 0))=true from h4),by omega⟩:fidx (λj=>decide (2048<ve (l.getD j 0))) (i+1) (l.length-(i+1))=fidx (λj=>decide (2048<ve (l.getD j 0))) 0 l.length/\(i+1)<=l.length) (?_:l.length-(i+1)<l.length-i))))) (λh5=>(FU hI.1 (by omega):(-1)=fidx (λj=>decide (2048<ve (l.getD j 0))) 0 l.length))))⟩<;>omega)
abbrev q2R:Ctr Tryz.prog:=FI.c q2T
abbrev q2P:FI:=⟨79,[(.sl .rat),(.fn 87)],[(.s 8388608 (.n 68719476736)),.u],λ_=>[],λb z=>(λ(l:List Rat)(u:Unit)=> .c (.one (.dt .bool .u (decide (0<=fidx (λj=>decide (2048<ve (l.getD j 0))) 0 l.length))))) z.1 z.2⟩
theorem q2Q:q2P.OK Tryz.prog:=qB hmix 9 Tryz.func79 rfl rfl (by decide) [] (λ(l:List Rat)(u:Unit) b hx hp=>qa trivial rfl) (λ(l:List Rat)(u:Unit) hx hp=>by
 refine⟨.h 1 2 (.c q2R) (.nil),kcast (by kernel_rfl) ((Eq.refl (decide (0<=fidx (λj=>decide (2048<ve (l.getD j 0))) 0 l.length))))⟩)
abbrev q2O:Ctr Tryz.prog:=FI.c q2Q
abbrev q34:FI:=⟨152,[(.sl (.pr (.pr .rat (.pr .rat .rat)) .rat)),(.fn 85)],[(.s 8388608 (.p (.p (.n 68719476736) (.p (.n 68719476736) (.n 68719476736))) (.n 68719476736))),.u],λ_=>[],λb z=>(λ(l:List ((Rat×Rat×Rat)×Rat))(u:Unit)=> .c (.one (.dt (.int .i64) (.n ((b0 b).len+1)) (fidx (λj=>decide (jb (l.getD j ((0,(0,0)),0)).2<=0)) 0 l.length)))) z.1 z.2⟩
theorem q35:q34.OK Tryz.prog:=qB hmix 19 Tryz.func152 rfl rfl (by decide) [(85,.c q67)] (λ(l:List ((Rat×Rat×Rat)×Rat))(u:Unit) b hx hp=>qa (show Int.natAbs (fidx (λj=>decide (jb (l.getD j ((0,(0,0)),0)).2<=0)) 0 l.length)<=(b0 b).len+1 from by have h1:=GM (λj=>decide (jb (l.getD j ((0,(0,0)),0)).2<=0)) l.length 0;have h2:=(Bnds.h2 hx).1.sl.1;omega) rfl) (λ(l:List ((Rat×Rat×Rat)×Rat))(u:Unit) hx hp=>by
 have hl0:l.length<=8388608:=hx.1.1
 refine⟨.loop [.s 8 (.nat .i64) (.n 8388608)] (λ(i:Nat)=>fidx (λj=>decide (jb (l.getD j ((0,(0,0)),0)).2<=0)) i (l.length-i)=fidx (λj=>decide (jb (l.getD j ((0,(0,0)),0)).2<=0)) 0 l.length/\i<=l.length) (λ(i:Nat)=>l.length-i) (λ(i:Nat)=> .nil),kcast (by kernel_rfl) (I (⟨rfl,q7G _⟩:fidx (λj=>decide (jb (l.getD j ((0,(0,0)),0)).2<=0)) 0 (l.length-0)=fidx (λj=>decide (jb (l.getD j ((0,(0,0)),0)).2<=0)) 0 l.length/\0<=l.length) (λ(i:Nat)(hb1:HB [.s 8 (.nat .i64) (.n 8388608)] i)(hI:fidx (λj=>decide (jb (l.getD j ((0,(0,0)),0)).2<=0)) i (l.length-i)=fidx (λj=>decide (jb (l.getD j ((0,(0,0)),0)).2<=0)) 0 l.length/\i<=l.length)=>have hv6:=(show i<=8388608 from hb1);have hIi:=hI.2;Sp (i<l.length) (λh2=>I (?_:i<l.length) (Sp (decide (jb (l.getD i ((0,(0,0)),0)).2<=0)=true) (λh3=>(FW hI.1 (by omega) (show decide (jb (l.getD i ((0,(0,0)),0)).2<=0)=true from h3):(i:Int)=fidx (λj=>decide (jb (l.getD j ((0,(0,0)),0)).2<=0)) 0 l.length)) (λh4=>I (show(i+1)<=8388608 by omega:Bnd (.nat .i64) (.n 8388608) (i+1)) (q6q (⟨HT hI.1 (by omega) (show¬decide (jb (l.getD i ((0,(0,0)),0)).2<=0)=true from h4),by omega⟩:fidx (λj=>decide (jb (l.getD j ((0,(0,0)),0)).2<=0)) (i+1) (l.length-(i+1))=fidx (λj=>decide (jb (l.getD j ((0,(0,0)),0)).2<=0)) 0 l.length/\(i+1)<=l.length) (?_:l.length-(i+1)<l.length-i))))) (λh5=>(FU hI.1 (by omega):(-1)=fidx (λj=>decide (jb (l.getD j ((0,(0,0)),0)).2<=0)) 0 l.length))))⟩<;>omega)
abbrev q33:Ctr Tryz.prog:=FI.c q35
abbrev q31:FI:=⟨84,[(.sl (.pr (.pr .rat (.pr .rat .rat)) .rat)),(.fn 85)],[(.s 8388608 (.p (.p (.n 68719476736) (.p (.n 68719476736) (.n 68719476736))) (.n 68719476736))),.u],λ_=>[],λb z=>(λ(l:List ((Rat×Rat×Rat)×Rat))(u:Unit)=> .c (.one (.dt .bool .u (decide (0<=fidx (λj=>decide (jb (l.getD j ((0,(0,0)),0)).2<=0)) 0 l.length))))) z.1 z.2⟩
theorem q32:q31.OK Tryz.prog:=qB hmix 9 Tryz.func84 rfl rfl (by decide) [(152,.c q33)] (λ(l:List ((Rat×Rat×Rat)×Rat))(u:Unit) b hx hp=>qa trivial rfl) (λ(l:List ((Rat×Rat×Rat)×Rat))(u:Unit) hx hp=>by
 refine⟨.nil,kcast (by kernel_rfl) ((Eq.refl (decide (0<=fidx (λj=>decide (jb (l.getD j ((0,(0,0)),0)).2<=0)) 0 l.length))))⟩)
abbrev q30:Ctr Tryz.prog:=FI.c q32
section
section
variable {P:Program}
end
end
section
section
variable {P:Program}
theorem Rx{fx:Operand}{f:FuncId}{cells:List CAtom}{xs:Array Operand}{ts:Array TypeId}{ty:TypeId}{us:List AV}{R:AV}
  (hl:xs.size=us.length)(h:vU P f (us++[.c (.one (.abs (ptP cells)))]) [] R []):
  OpOk P (.call {callee:= .value fx,args:=xs,argTypes:=ts}) ty ((fx,.c (.one (.abs (clP f cells))))::List.zip xs.toList us) [] R []:=by
 intro dst pos after guard a w H β K Q hins hkin hdis hon hK;obtain⟨q,hf,hq⟩:=hins _ q6W;simp only at hf;have hargs:AVs β H us (xs.toList.map a.eval):=AVs.of_ins (by simpa using hl) λp hp=>hins p (q6V _ hp)
 have hap: ∀{l:List AV}{vs:List Value},AVs β H l vs->AVs β H (l++[.c (.one (.abs (ptP cells)))]) (vs++[q]):=by
  intro l
  induction l with
  |nil=>intro vs hv;cases vs with
   |nil=>exact⟨hq,trivial⟩
   |cons _ _=>exact hv.elim
  |cons x l ih=>intro vs hv;cases vs with
   |nil=>exact hv.elim
   |cons _ _=>exact⟨hv.1,ih hv.2⟩
 have hc:=h.2 _ w H β (hap hargs) hkin hdis hon;unfold Oper.wp
 have hrun:(execOp a.eval ⟨dst,.call {callee:= .value fx,args:=xs,argTypes:=ts},ty,pos,after,guard⟩).run P w= .ok (.enter f (xs.map a.eval++ #[q])) w:=by
  simp only[execOp,resolve,hf,Deferred.ofValue,q7N,q7O,q7M,invoke];rw[show(#[]++Array.map a.eval xs++ #[q]:Array Value)=Array.map a.eval xs++ #[q] by simp];exact Ew h.1 _ w
 rw[hrun];show Calls P f (xs.map a.eval++ #[q]) w _;have e:(xs.toList.map a.eval++[q]).toArray=xs.map a.eval++ #[q]:=Array.ext' (by simp);rw[<-e];refine hc.mono λe' w'⟨v,H',β',he,hs,hR,hL⟩=>?_
 subst he;exact hK v w' H' β' hs hR hL
def gMkF:Op->Option Tmp->(Nat->Option WB)->List WV->HR
 | .makeFunc (.func f) a b,_,_,[.c (.one (.ip t bd x 0))]=>bif Nat.beq a.size 0&&Nat.beq b.size 1 then .ok [] (.c (.one (.dt (.cl f t) bd x))) [] []else .bad
 |_,_,_,_=> .bad
def zK:Ext P:=⟨gMkF,by
 intro op dst ty bl vs hl;unfold gMkF;split
 .rename_i f a b t bd x
  cases hc:Nat.beq a.size 0&&Nat.beq b.size 1 with
  |false=>exact trivial
  |true=>
   simp only[q6s]at hc;have ha:a= #[]:=q6r (q7e hc.1)
   obtain⟨o,hb⟩: ∃o,b= #[o]:=by
    have h1:=q7e hc.2;exact⟨b[0]'(by omega),Array.ext (by simp[h1]) λi h1 h2=>by simp at h2;subst h2;rfl⟩
   subst ha hb;intro hv _ hvc kin hk _;rw[qx hk];refine⟨?_,⟨hv _ q6W|>.1,rfl⟩,qz⟩;show OpOk P _ ty [(o,.c (.one (.ptr (cellsC t x))))] [] (.c (.one (.abs (clP f (cellsC t x))))) [];refine qQ λa w H β hins _ _=>?_
   have h0:=hins _ q6W;refine⟨.func (.func f) #[] #[a.eval o],⟨a.eval o,rfl,h0⟩,λ_ _ _ _=>?_⟩;simp[execOp,Instr.makeFunc]
 .exact trivial⟩
def Q3(C:Ctr P)(vs:List WV):HR:=
 match vs with
 | .c (.one (.dt (.cl f t) b x))::vs=>bif Nat.beq f C.f then(match zy C.ts (vs++[.c (.one (.dt (.pt t) b x))])with
  |some (bs,x)=>bif Bds.le bs C.bs then .ok (C.pre x) (C.res bs x) [] []else .bad
  |none=> .bad)else .bad
 |_=> .bad
def gClC(C:Ctr P)(op:Op)(dst:Option Tmp)(bl:Nat->Option WB)(vs:List WV):HR:=
 match op with
 | .call {callee:= .value _,args:=aas,argTypes:=_}=>bif Nat.beq vs.length (aas.size+1)then Q3 C vs else .bad
 |_=> .bad
def qV(C:Ctr P):Ext P:=⟨gClC C,by
 intro op dst ty bl vs hl;unfold gClC;split
 .rename_i fx aas ts
  cases hn:Nat.beq vs.length (aas.size+1)with
  |false=>exact trivial
  |true=>
   simp only[cond_true];have hn:=q7e hn;unfold Q3;split
   .rename_i f t b x vs _
    cases hf:Nat.beq f C.f with
    |false=>exact trivial
    |true=>
     simp only[cond_true];have hf:=q7e hf;split
     .rename_i bs y hx
      cases hb:Bds.le bs C.bs with
      |false=>exact trivial
      |true=>
       intro hv _ hvc kin hk _;rw[qx hk]
       obtain⟨h1,h2,h3⟩:=zX hx (λw hw=>by
        rcases q6T.1 hw with hw|hw
        .exact hv w (q6V _ hw)
        .rw[q70.1 hw];exact⟨(hv _ q6W).1,rfl⟩)
       refine⟨?_,C.okr bs y h2 hvc,qz⟩;have hs:=B8 h1 (C.sig y (Bnds.mono hb h2) hvc);rw[C.hexp bs y];rw[List.map_append]at hs;rw[show Op.operands (.call {callee:= .value fx,args:=aas,argTypes:=ts})= #[fx]++aas from rfl];have e:(#[fx]++aas:Array Operand).toList=fx::aas.toList:=by simp
       rw[e];subst hf;exact Rx (by simp at hn;simp[hn]) hs
     .exact trivial
   .exact trivial
 .exact trivial⟩
end
end
section
section
variable {P:Program}
end
end
section
section
variable {P:Program}
end
end
section
def bndB:(t:Ty)->Bd->t.den->Bool
 | .nat _,.n b,x=>Nat.ble x b
 | .int _,.n b,x=>Nat.ble (Int.natAbs x) b
 | .bool,_,_=>true
 | .str,.n b,x=>Nat.ble (ByteArray.size x) b
 | .mag,.n b,x=>Nat.blt x (2^b)
 | .rat,.n b,x=>Nat.blt (Int.natAbs (Rat.num x)) (2^b)&&Nat.ble (Rat.den x) (2^b)
 | .sl t,.s n e,l=>Nat.ble (List.length (show List t.den from l)) n&&List.all (show List t.den from l) (bndB t e)
 | .pr a b,.p c d,x=>bndB a c x.1&&bndB b d x.2
 | .st t,e,x=>bndB t e x
 | .fn _,_,_=>true
 | .pt t,e,x=>bndB t e x
 | .cl _ t,e,x=>bndB t e x
 |_,_,_=>false
theorem q9: ∀{t:Ty}{b:Bd}{x:t.den},bndB t b x=true->Bnd t b x
 | .nat _,.n _,_,h=>q7g h
 | .int _,.n _,_,h=>q7g h
 | .bool,_,_,_=>trivial
 | .str,.n _,_,h=>q7g h
 | .mag,.n _,_,h=>by
  have h:Nat.blt _ _=true:=h;exact(show _<2^_ by simpa using h)
 | .rat,.n b,x,h=>by
  have h:(Nat.blt (Int.natAbs (Rat.num x)) (2^b)&&Nat.ble (Rat.den x) (2^b))=true:=h;simp only[q6s]at h;exact⟨(show Int.natAbs (Rat.num x)<2^b by have:=h.1;simpa using this),q7g h.2⟩
 | .sl t,.s n e,l,h=>by
  have h:(Nat.ble (List.length (show List t.den from l)) n&&List.all (show List t.den from l) (bndB t e))=true:=h;simp only[q6s,List.all_eq_true]at h;exact⟨q7g h.1,λx hx=>q9 (h.2 x hx)⟩
 | .pr a b,.p c d,x,h=>by
  have h:(bndB a c x.1&&bndB b d x.2)=true:=h;simp only[q6s]at h;exact⟨q9 h.1,q9 h.2⟩
 | .st t,e,x,h=>q9 (t:=t) (b:=e) (x:=x) h
 | .fn _,_,_,_=>trivial
 | .pt t,e,x,h=>q9 (t:=t) (b:=e) (x:=x) h
 | .cl _ t,e,x,h=>q9 (t:=t) (b:=e) (x:=x) h
 | .nat _,.u,_,h| .nat _,.s _ _,_,h| .nat _,.p _ _,_,h=>by cases h
 | .int _,.u,_,h| .int _,.s _ _,_,h| .int _,.p _ _,_,h=>by cases h
 | .str,.u,_,h| .str,.s _ _,_,h| .str,.p _ _,_,h=>by cases h
 | .mag,.u,_,h| .mag,.s _ _,_,h| .mag,.p _ _,_,h=>by cases h
 | .rat,.u,_,h| .rat,.s _ _,_,h| .rat,.p _ _,_,h=>by cases h
 | .sl _,.u,_,h| .sl _,.n _,_,h| .sl _,.p _ _,_,h=>by cases h
 | .pr _ _,.u,_,h| .pr _ _,.n _,_,h| .pr _ _,.s _ _,_,h=>by cases h
section
variable {P:Program}
def gK(h:Hint P)(op:Op)(dst:Option Tmp)(bl:Nat->Option WB)(vs:List WV):HR:=
 match wopH [] bl dst op h vs with
 | .ok vc (.c (.one a)) ks Lw=>match asZ a with
  |some (k,_,x)=> .ok vc (.c (.one (.kn k x))) ks Lw
  |none=> .bad
 |_=> .bad
def vQ(h:Hint P):Ext P:=⟨gK h,by
 intro op dst ty bl vs hl;unfold gK;have hw:=Mu (P:=P) (bl:=bl) (ty:=ty) (G:=[]) (dst:=dst) (op:=op) (h:=h) (vs:=vs) hl;split
 .rename_i vc a ks Lw hr
  rw[hr]at hw;split
  .rename_i k b x ha
   intro hv hb hvc kin hk hkb;obtain⟨g1,g2,g3⟩:=hw hv hb hvc kin hk hkb;refine⟨?_,⟨trivial,rfl⟩,g3⟩;rw[jn (vA ha).1]at g1;exact g1
  .exact trivial
 .exact trivial⟩
end
theorem Sa{n:Nat}{Ks:List Nat}{st:WSt}(hk:st.Ok){slot:Nat}{v v2:WV}(hn:vd st.m=true)(hl:look st.m slot=some v)(he: ∀β H u,v.exp.sat β H u->v2.exp.sat β H u)(ho:v2.ok):EntW n Ks st (setV st slot v2)/\(setV st slot v2).Ok/\(setV st slot v2).rm=st.rm/\(setV st slot v2).rL=st.rL:=by
 have hM:qH st slot=some v:=by unfold qH;rw[hl]
 have h1: ∀q u,qH (setV st slot v2) q=some u->(q=slot/\u=v2)\/qH st q=some u:=by
  intro q u h;unfold qH setV at h;simp only[look]at h;by_cases e:slot=q
  .subst e;simp at h;exact .inl ⟨rfl,h.symm⟩
  .rw[v5 e]at h;simp only[cond_false]at h
   refine .inr ?_;unfold qH
   cases hf:look (st.m.filter (λp=>!Nat.beq p.1 slot)) q with
   |some y=>rw[hf]at h;rw[(zi hn hf).1];exact h
   |none=>rw[hf]at h;simp only at h;rw[hk.dm q (by rw[h];simp)];exact h
 refine⟨Dy (λq v' h=>?_) (λk b' h=>⟨b',h,λ_ _ _ h=>h⟩),⟨λq u h=>?_,λk b h=>hk.l k b h,λq hq=>?_,λk hk'=>hk.dl k hk'⟩,rfl,rfl⟩
 .rcases h1 q v' h with⟨rfl,rfl⟩|h
  .exact⟨_,hM,he⟩
  .exact⟨v',h,λ_ _ _ h=>h⟩
 .rcases h1 q u h with⟨rfl,rfl⟩|h
  .exact ho
  .exact hk.m q u h
 .show look ((slot,_)::st.m.filter (λp=>!Nat.beq p.1 slot)) q=none
  have hne:slot≠q:=λe=>by subst e;rw[hk.dm slot hq]at hl;cases hl
  simp only[look,v5 hne,cond_false];exact wM (hk.dm q hq)
def TJ(slot:Nat)(st:WSt):Option (List Prop×WSt):=
 match look st.m slot with
 |some (.c (.one (.dt (.pt t) b x)))=>bif vd st.m then some ([],setV st slot (.c (.one (.ip t b x 0))))else none
 |_=>none
def unpt(slot:Nat):PExt:=⟨λ_ st=>TJ slot st,by
 intro n Ks st st' vc hk h hvc;unfold TJ at h;split at h
 .rename_i t b x hl
  cases hn:vd st.m with
  |false=>rw[hn]at h;cases h
  |true=>
   rw[hn]at h;simp only[cond_true,q7K,q7L]at h;obtain⟨rfl,rfl⟩:=h
   have h0:(WV.c (.one (.dt (.pt t) b x))).ok:=hk.m slot _ (by unfold qH;rw[hl]);refine Sa hk hn hl (λβ H u hu=>?_) ⟨h0.1,rfl⟩;exact hu
 .cases h⟩
end
section
def bigB:Ty->Bd
 | .rat=> .n 16384
 | .int _| .nat _=> .n 1099511627776
 | .mag=> .n 16384
 | .bool| .fn _=> .u
 | .str=> .n 1048576
 | .sl t=> .s 1024 (bigB t)
 | .pr a b=> .p (bigB a) (bigB b)
 | .st t| .pt t| .cl _ t=>bigB t
def botB:Ty->Bd
 | .bool| .fn _=> .u
 | .sl t=> .s 0 (botB t)
 | .pr a b=> .p (botB a) (botB b)
 | .st t| .pt t| .cl _ t=>botB t
 |_=> .n 0
def maxB:Bd->Bd->Bd
 | .n a,.n b=> .n (max a b)
 | .s a e,.s b f=> .s (max a b) (maxB e f)
 | .p a b,.p c d=> .p (maxB a c) (maxB b d)
 |a,_=>a
def Bx:(t:Ty)->t.den->Bd
 | .rat,x=> .n (Nat.log2 (max (Int.natAbs (Rat.num x)) (Rat.den x))+1)
 | .int _,x=> .n (Int.natAbs x)
 | .nat _,x=> .n x
 | .mag,x=> .n (Nat.log2 x+1)
 | .bool,_| .fn _,_=> .u
 | .str,x=> .n (ByteArray.size x)
 | .sl t,l=> .s (List.length (show List t.den from l)) ((show List t.den from l).foldr (λx b=>maxB (Bx t x) b) (botB t))
 | .pr a b,x=> .p (Bx a x.1) (Bx b x.2)
 | .st t,x=>Bx t x
 | .pt t,x=>Bx t x
 | .cl _ t,x=>Bx t x
def Ab:(ts:List Ty)->dens ts->List Bd
 |[],_=>[]
 |[t],x=>[Bx t x]
 |t::u::r,x=>Bx t x.1::Ab (u::r) x.2
def Gu:(ts:List Ty)->List Bd->dens ts->Bool
 |[],[],_=>true
 |[t],[b],x=>bndB t b x
 |t::u::r,b::bs,x=>bndB t b x.1&&Gu (u::r) bs x.2
 |_,_,_=>false
theorem FP: ∀{ts:List Ty}{bs:List Bd}{x:dens ts},Gu ts bs x=true->Bnds ts bs x
 |[],[],_,_=>trivial
 |[t],[b],x,h=>q9 (t:=t) (b:=b) (x:=x) h
 |t::u::r,b::bs,x,h=>by
  have h:(bndB t b x.1&&Gu (u::r) bs x.2)=true:=h;simp only[q6s]at h;exact⟨q9 h.1,FP (ts:=u::r) h.2⟩
 |[],_::_,_,h=>by cases h
 |[_],[],_,h=>by cases h
 |[_],_::_::_,_,h=>by cases h
 |_::_::_,[],_,h=>by cases h
section
variable {P:Program}
abbrev qn(f:FuncId)(ts:List Ty)(y:dens ts)(R:WV):FI:=⟨f,ts,ts.map bigB,λz=>[z=y],λ_ _=>R⟩
theorem qg (hm : P.follows .mixedOrders = true) {f : FuncId} {ts : List Ty} {y : dens ts} {R : WV} {fn : Func} {c : Code} (n : Nat) (hf : P.funcs[f]? = some fn) (hb : fn.body = some c) (hn : fn.ntmps = n) (hname : fn.name ≠ "runtime.NumGoroutine") (G : List (Nat × Hint P))
  (hB : Gu ts (Ab ts y) y = true) (hR : R.ok) (ann : Ann P)
  (h : Hold (wp ⟨G, n, []⟩ c ann (vu (jD ts (Ab ts y) y) []) (λan e st => wpre ⟨G, n, []⟩ 999999 an st λ_ st => retW P fn.results.toList R e st)))
  (hl : Nat.ble (jD ts (Ab ts y) y).length n = true := by rfl) (hi : R.ids = [] := by rfl) : (qn f ts y R).OK P :=
 ⟨λx hx hp => by
  have e : x = y := hp _ q6W;rw [e]
  exact sigW hm hf hb hn hname (FP hB) hl hi hR ann h, λ_ _ => rfl, λ_ _ _ _ => hR⟩
end
end
section
section
variable {P:Program}
end
end
section
section
variable {P:Program}
theorem q0Y{op:Op}{ty:TypeId}{o:Operand}{v v':WV}{bl:Nat->Option WB}{r:HR}(h:HOk P op ty [o] [v'] bl r)(h1:v.ok->v'.ok)(h2: ∀β H u,v.exp.sat β H u->v'.exp.sat β H u):HOk P op ty [o] [v] bl r:=by
 have key: ∀{kin:List (Nat×Blk)}{R:AV}{Lw:List (Nat×Option Blk)},OpOk P op ty [(o,v'.exp)] kin R Lw->OpOk P op ty [(o,v.exp)] kin R Lw:=λh dst pos after guard a w H β K Q hins=>h dst pos after guard a w H β K Q (λp hp=>by
  rw[q70.1 hp];exact h2 _ _ _ (hins (o,v.exp) q6W))
 have ho:(∀u∈[v],u.ok)-> ∀u∈[v'],u.ok:=λh u hu=>by rw[q70.1 hu];exact h1 (h v q6W)
 cases r with
 |bad=>trivial
 |ok vc R ks Lw=>exact λhv hb hvc kin hk hkb=>by obtain⟨a,c⟩:=h (ho hv) hb hvc kin hk hkb;exact⟨key a,c⟩
 |spl q R1 R2=>exact λhv=>⟨λhq=>⟨key ((h (ho hv)).1 hq).1,((h (ho hv)).1 hq).2⟩,λhq=>⟨key ((h (ho hv)).2 hq).1,((h (ho hv)).2 hq).2⟩⟩
 |okA vc R k b'=>exact λhv hb hvc b hb'=>by obtain⟨a,c,e⟩:=h (ho hv) hb hvc b hb';exact⟨key a,key c,e⟩
def gFaP(P:Program):Op->Option Tmp->(Nat->Option WB)->List WV->HR
 | .fieldAddr s _ f,_,_,[.c (.one (.dt (.pt t) b x))]=>BF P s f (.c (.one (.ip t b x 0)))
 |_,_,_,_=> .bad
def Ox:Ext P:=⟨gFaP P,by
 intro op dst ty bl vs hl;unfold gFaP;split
 .rename_i s o f t b x
  exact q0Y (v':= .c (.one (.ip t b x 0))) FC (λh=>h) (λβ H u h=>h)
 .exact trivial⟩
end
end
abbrev Xk:FI:=⟨151,[(.sl (.pr (.pr .rat (.pr .rat .rat)) .rat)),(.pt (.pr (.int .i64) (.pr (.int .i64) (.pr (.sl .rat) (.pr (.sl .rat) (.sl (.sl (.pr (.pr .rat (.pr .rat .rat)) .rat))))))))],[(.s 32 (.p (.p (.n 1000) (.p (.n 1000) (.n 1000))) (.n 1000))),(.p (.n 8) (.p (.n 8) (.p (.s 32 (.n 1000)) (.p (.s 32 (.n 1000)) (.s 32 (.s 32 (.p (.p (.n 1000) (.p (.n 1000) (.n 1000))) (.n 1000))))))))],λ_=>[],λb z=>(λ(r:List ((Rat×Rat×Rat)×Rat))(u:Int×Int×List Rat×List Rat×List (List ((Rat×Rat×Rat)×Rat)))=> .c (.one (.dt .bool .u (decide (¬vE u r))))) z.1 z.2⟩
theorem Xl:Xk.OK Tryz.prog:=qB hmix 12 Tryz.func151 rfl rfl (by decide) [(149,.c j6)] (λ(r:List ((Rat×Rat×Rat)×Rat))(u:Int×Int×List Rat×List Rat×List (List ((Rat×Rat×Rat)×Rat))) b hx hp=>qa trivial rfl) (λ(r:List ((Rat×Rat×Rat)×Rat))(u:Int×Int×List Rat×List Rat×List (List ((Rat×Rat×Rat)×Rat))) hx hp=>by
 refine⟨.h 1 2 (.ext Ox) (.h 1 4 (.ext Ox) (.nil)),kcast (by kernel_rfl) ((rfl:decide (((r.length:Nat):Int)≠((u.2.2.2.1.length:Nat):Int) -u.2.1-1)=decide (¬vE u r)))⟩)
abbrev Xj:Ctr Tryz.prog:=FI.c Xl
abbrev q3i:FI:=⟨194,[(.sl (.sl (.pr (.pr .rat (.pr .rat .rat)) .rat))),(.cl 151 (.pr (.int .i64) (.pr (.int .i64) (.pr (.sl .rat) (.pr (.sl .rat) (.sl (.sl (.pr (.pr .rat (.pr .rat .rat)) .rat))))))))],[(.s 32 (.s 32 (.p (.p (.n 1000) (.p (.n 1000) (.n 1000))) (.n 1000)))),(.p (.n 8) (.p (.n 8) (.p (.s 32 (.n 1000)) (.p (.s 32 (.n 1000)) (.s 32 (.s 32 (.p (.p (.n 1000) (.p (.n 1000) (.n 1000))) (.n 1000))))))))],λ_=>[],λb z=>(λ(l:List (List ((Rat×Rat×Rat)×Rat)))(u:Int×Int×List Rat×List Rat×List (List ((Rat×Rat×Rat)×Rat)))=> .c (.one (.dt (.int .i64) (.n ((b0 b).len+1)) (fidx (λj=>decide (¬vE u (l.getD j []))) 0 l.length)))) z.1 z.2⟩
theorem q3j:q3i.OK Tryz.prog:=qB hmix 19 Tryz.func194 rfl rfl (by decide) [] (λ(l:List (List ((Rat×Rat×Rat)×Rat)))(u:Int×Int×List Rat×List Rat×List (List ((Rat×Rat×Rat)×Rat))) b hx hp=>qa (show Int.natAbs (fidx (λj=>decide (¬vE u (l.getD j []))) 0 l.length)<=(b0 b).len+1 from by have h1:=GM (λj=>decide (¬vE u (l.getD j []))) l.length 0;have h2:=(Bnds.h2 hx).1.sl.1;omega) rfl) (λ(l:List (List ((Rat×Rat×Rat)×Rat)))(u:Int×Int×List Rat×List Rat×List (List ((Rat×Rat×Rat)×Rat))) hx hp=>by
 have hl0:l.length<=32:=hx.1.1
 refine⟨.loop [.s 8 (.nat .i64) (.n 8388608)] (λ(i:Nat)=>fidx (λj=>decide (¬vE u (l.getD j []))) i (l.length-i)=fidx (λj=>decide (¬vE u (l.getD j []))) 0 l.length/\i<=l.length) (λ(i:Nat)=>l.length-i) (λ(i:Nat)=> .cond (.h 4 5 (.ext (qV Xj)) (.nil)) (.nil)),kcast (by kernel_rfl) (I (⟨rfl,q7G _⟩:fidx (λj=>decide (¬vE u (l.getD j []))) 0 (l.length-0)=fidx (λj=>decide (¬vE u (l.getD j []))) 0 l.length/\0<=l.length) (λ(i:Nat)(hb1:HB [.s 8 (.nat .i64) (.n 8388608)] i)(hI:fidx (λj=>decide (¬vE u (l.getD j []))) i (l.length-i)=fidx (λj=>decide (¬vE u (l.getD j []))) 0 l.length/\i<=l.length)=>have hv6:=(show i<=8388608 from hb1);have hIi:=hI.2;Sp (i<l.length) (λh2=>I (?_:i<l.length) (Sp (decide (¬vE u (l.getD i []))=true) (λh3=>(FW hI.1 (by omega) (show decide (¬vE u (l.getD i []))=true from h3):(i:Int)=fidx (λj=>decide (¬vE u (l.getD j []))) 0 l.length)) (λh4=>I (show(i+1)<=8388608 by omega:Bnd (.nat .i64) (.n 8388608) (i+1)) (q6q (⟨HT hI.1 (by omega) (show¬decide (¬vE u (l.getD i []))=true from h4),by omega⟩:fidx (λj=>decide (¬vE u (l.getD j []))) (i+1) (l.length-(i+1))=fidx (λj=>decide (¬vE u (l.getD j []))) 0 l.length/\(i+1)<=l.length) (?_:l.length-(i+1)<l.length-i))))) (λh5=>(FU hI.1 (by omega):(-1)=fidx (λj=>decide (¬vE u (l.getD j []))) 0 l.length))))⟩<;>omega)
abbrev q3h:Ctr Tryz.prog:=FI.c q3j
abbrev q3f:FI:=⟨150,[(.sl (.sl (.pr (.pr .rat (.pr .rat .rat)) .rat))),(.cl 151 (.pr (.int .i64) (.pr (.int .i64) (.pr (.sl .rat) (.pr (.sl .rat) (.sl (.sl (.pr (.pr .rat (.pr .rat .rat)) .rat))))))))],[(.s 32 (.s 32 (.p (.p (.n 1000) (.p (.n 1000) (.n 1000))) (.n 1000)))),(.p (.n 8) (.p (.n 8) (.p (.s 32 (.n 1000)) (.p (.s 32 (.n 1000)) (.s 32 (.s 32 (.p (.p (.n 1000) (.p (.n 1000) (.n 1000))) (.n 1000))))))))],λ_=>[],λb z=>(λ(l:List (List ((Rat×Rat×Rat)×Rat)))(u:Int×Int×List Rat×List Rat×List (List ((Rat×Rat×Rat)×Rat)))=> .c (.one (.dt .bool .u (decide (0<=fidx (λj=>decide (¬vE u (l.getD j []))) 0 l.length))))) z.1 z.2⟩
theorem q3g:q3f.OK Tryz.prog:=qB hmix 9 Tryz.func150 rfl rfl (by decide) [(194,.c q3h)] (λ(l:List (List ((Rat×Rat×Rat)×Rat)))(u:Int×Int×List Rat×List Rat×List (List ((Rat×Rat×Rat)×Rat))) b hx hp=>qa trivial rfl) (λ(l:List (List ((Rat×Rat×Rat)×Rat)))(u:Int×Int×List Rat×List Rat×List (List ((Rat×Rat×Rat)×Rat))) hx hp=>by
 refine⟨.nil,kcast (by kernel_rfl) ((Eq.refl (decide (0<=fidx (λj=>decide (¬vE u (l.getD j []))) 0 l.length))))⟩)
abbrev q3e:Ctr Tryz.prog:=FI.c q3g
abbrev Xm:FI:=⟨83,[(.pr (.int .i64) (.pr (.int .i64) (.pr (.sl .rat) (.pr (.sl .rat) (.sl (.sl (.pr (.pr .rat (.pr .rat .rat)) .rat)))))))],[(.p (.n 8) (.p (.n 8) (.p (.s 32 (.n 1000)) (.p (.s 32 (.n 1000)) (.s 32 (.s 32 (.p (.p (.n 1000) (.p (.n 1000) (.n 1000))) (.n 1000))))))))],λ_=>[],λb z=>(λ(x:Int×Int×List Rat×List Rat×List (List ((Rat×Rat×Rat)×Rat)))=> .c (.one (.dt .bool .u (rcS x)))) z⟩
theorem Xn:Xm.OK Tryz.prog:=qB hmix 19 Tryz.func83 rfl rfl (by decide) [(149,.c j6)] (λ(x:Int×Int×List Rat×List Rat×List (List ((Rat×Rat×Rat)×Rat))) b hx hp=>qa trivial rfl) (λ(x:Int×Int×List Rat×List Rat×List (List ((Rat×Rat×Rat)×Rat))) hx hp=>by
 refine⟨.pre 1 (.ex (frzP 1 (.pr (.int .i64) (.pr (.int .i64) (.pr (.sl .rat) (.pr (.sl .rat) (.sl (.sl (.pr (.pr .rat (.pr .rat .rat)) .rat))))))) (.p (.n 8) (.p (.n 8) (.p (.s 32 (.n 1000)) (.p (.s 32 (.n 1000)) (.s 32 (.s 32 (.p (.p (.n 1000) (.p (.n 1000) (.n 1000))) (.n 1000)))))))) [1])) (.cond (.h 1 12 (.ext zK) (.h 1 13 (.c q3e) (.nil))) (.nil)),kcast (by kernel_rfl) (Sp (((x.2.2.2.2.length:Nat):Int)=((x.2.2.1.length:Nat):Int) -x.1-1) (λh1=>(q5H h1:(!(decide (0<=fidx (λj=>decide (¬vE x (x.2.2.2.2.getD j []))) 0 x.2.2.2.2.length)))=rcS x)) (λh2=>(q5I h2:false=rcS x)))⟩)
abbrev Mp:Ctr Tryz.prog:=FI.c Xn
abbrev q26:FI:=⟨120,[(.pr (.int .i64) (.pr (.int .i64) (.pr (.sl .rat) (.pr (.sl .rat) (.sl (.sl (.pr (.pr .rat (.pr .rat .rat)) .rat)))))))],[(.p (.n 6) (.p (.n 6) (.p (.s 16 (.n 6)) (.p (.s 16 (.n 6)) (.s 16 (.s 16 (.p (.p (.n 12) (.p (.n 12) (.n 12))) (.n 12))))))))],λz=>(λ(s:Int×Int×List Rat×List Rat×List (List ((Rat×Rat×Rat)×Rat)))=>[qM s.2.2.1 s.1=0,qM s.2.2.2.1 s.2.1=0,rcS s=true]) z,λb z=> .c (.one (.dt .bool .u true))⟩
theorem q27:q26.OK Tryz.prog:=qB hmix 21 Tryz.func120 rfl rfl (by decide) [(82,.c Ef),(83,.c Mp)] (λ(s:Int×Int×List Rat×List Rat×List (List ((Rat×Rat×Rat)×Rat))) b hx hp=>qa trivial rfl) (λ(s:Int×Int×List Rat×List Rat×List (List ((Rat×Rat×Rat)×Rat))) hx hp=>by
 have hp0:qM s.2.2.1 s.1=0:=hp _ (q6W);have hp1:qM s.2.2.2.1 s.2.1=0:=hp _ (q6V _ (q6W));have hp2:rcS s=true:=hp _ (q6V _ (q6V _ (q6W)))
 refine⟨.cond (.cond (.nil) (.dead)) (.dead),kcast (by kernel_rfl) (Sp (qM s.2.2.1 s.1=0) (λh1=>Sp (qM s.2.2.2.1 s.2.1=0) (λh2=>(hp2:rcS s=true)) (λh3=>(absurd hp1 h3:False))) (λh4=>(absurd hp0 h4:False)))⟩)
abbrev Hm:Ctr Tryz.prog:=FI.c q27
abbrev q1W:FI:=⟨99,[(.pr (.int .i64) (.pr (.int .i64) (.pr (.sl .rat) (.pr (.sl .rat) (.sl (.sl (.pr (.pr .rat (.pr .rat .rat)) .rat))))))),.rat],[(.p (.n 6) (.p (.n 6) (.p (.s 16 (.n 6)) (.p (.s 16 (.n 6)) (.s 16 (.s 16 (.p (.p (.n 12) (.p (.n 12) (.n 12))) (.n 12)))))))),(.n 16384)],λz=>(λ(s:Int×Int×List Rat×List Rat×List (List ((Rat×Rat×Rat)×Rat)))(t:Rat)=>[IsP s t]) z.1 z.2,λb z=>(λ(s:Int×Int×List Rat×List Rat×List (List ((Rat×Rat×Rat)×Rat)))(t:Rat)=> .tup [.agg [.dt jm bIsS (jH s t)],.one (.kn .i64 0)]) z.1 z.2⟩
theorem q1X:q1W.OK Tryz.prog:=qB hmix 45 Tryz.func99 rfl rfl (by decide) [(104,.c AB),(120,.c Hm),(162,.c Hi)] (λ(s:Int×Int×List Rat×List Rat×List (List ((Rat×Rat×Rat)×Rat)))(t:Rat) b hx hp=>qc (qh (OS (hp _ q6W))) (qc AQ qy)) (λ(s:Int×Int×List Rat×List Rat×List (List ((Rat×Rat×Rat)×Rat)))(t:Rat) hx hp=>by
 have hp0:IsP s t:=hp _ (q6W);have hxl:s.2.2.2.2.length<=16:=hx.1.2.2.2.2.1
 refine⟨.cond (.dead) (.loop [.s 23 (.nat .i64) (.n 1048576),.ex (gboX 6 90001 [(.dt (.int .i64) (.n 6) s.2.1),(.dt (.sl .rat) (.s 16 (.n 6)) s.2.2.2.1)] [] (.pr .rat (.pr .rat (.pr .rat .rat))) (.p (.n 33554432) (.p (.n 33554432) (.p (.n 33554432) (.n 33554432)))) 16)] (λ((i,o):Nat×List (Rat×Rat×Rat×Rat))=>o=isoH s t i/\i<=(auN s (s.2.2.2.2.getD 0 []).length).length) (λ((i,o):Nat×List (Rat×Rat×Rat×Rat))=>(auN s (s.2.2.2.2.getD 0 []).length).length-i) (λ((i,o):Nat×List (Rat×Rat×Rat×Rat))=> .cond (.cond (.dead) (.h 10 1 (.ext DB) (.h 10 3 (.mk (.im (.pr .rat (.pr .rat (.pr .rat .rat))) (.p (.n 33554432) (.p (.n 33554432) (.p (.n 33554432) (.n 33554432)))))) (.nil)))) (.pre 12 (.frz 90001 true []) (.nil)))),kcast (by kernel_rfl) (I (hp0.ku:qM s.2.2.1 s.1=0) (I (hp0.kv:qM s.2.2.2.1 s.2.1=0) (I (hp0.rs:rcS s=true) (Sp ((!true)=true) (λh1=>(absurd h1 (by decide):False)) (λh2=>I (hp0.sb:Bnd qR bSfl s) (I (hp0.r0:0<s.2.2.2.2.length) (I (hp0.rc: ∀i,i<s.2.2.2.2.length->(j3 s i).length=(j3 s 0).length) (I (rfl:([(.dt (.int .i64) (.n 6) s.2.1),(.dt (.sl .rat) (.s 16 (.n 6)) s.2.2.2.1)]:List WA)=[(.dt (.int .i64) (.n 6) s.2.1),(.dt (.sl .rat) (.s 16 (.n 6)) s.2.2.2.1)]) (I (rfl:([]:List WA)=[]) (I (rfl:0=([]:List (Rat×Rat×Rat×Rat)).length) (I (⟨rfl,q7G _⟩:([]:List (Rat×Rat×Rat×Rat))=isoH s t 0/\0<=(auN s (s.2.2.2.2.getD 0 []).length).length) (λ(i:Nat)(o:List (Rat×Rat×Rat×Rat))(hb3:HB [.s 23 (.nat .i64) (.n 1048576),.ex (gboX 6 90001 [(.dt (.int .i64) (.n 6) s.2.1),(.dt (.sl .rat) (.s 16 (.n 6)) s.2.2.2.1)] [] (.pr .rat (.pr .rat (.pr .rat .rat))) (.p (.n 33554432) (.p (.n 33554432) (.p (.n 33554432) (.n 33554432)))) 16)] (i,o))(hI:o=isoH s t i/\i<=(auN s (s.2.2.2.2.getD 0 []).length).length)=>have hv8:=(show i<=1048576 from hb3.1);have hv9:=(show o.length<=16 from hb3.2.1.1);have hol:=(show o.length=i by rw[hI.1,C9]);have hal:=(BH s (s.2.2.2.2.getD 0 []).length);have hwl:=(show(j3 s 0).length=(s.2.2.2.2.getD 0 []).length from rfl);have hw0:=(Ic hp0.sb);Sp (i<(auN s (s.2.2.2.2.getD 0 []).length).length) (λh4=>I (by(try simp only[q6M,q6N,q6Q])<;>omega:i<(auN s (s.2.2.2.2.getD 0 []).length).length) (I ((by rw[CW s _ _ _ (by omega)];exact hp0.sp (by rw[hwl];omega)):SpO ((auN s (s.2.2.2.2.getD 0 []).length).getD i (0,([],[]))) t) (Sp (jv ((auN s (s.2.2.2.2.getD 0 []).length).getD i (0,([],[]))).2.1 t≠0) (λh5=>(h5 (by rw[CW s _ _ _ (by omega)];exact Jg hp0.O):False)) (λh6=>I (?_:o.length=o.length) (I (show(i+1)<=1048576 by omega:Bnd (.nat .i64) (.n 1048576) (i+1)) (I (rfl:([(.dt (.int .i64) (.n 6) s.2.1),(.dt (.sl .rat) (.s 16 (.n 6)) s.2.2.2.1)]:List WA)=[(.dt (.int .i64) (.n 6) s.2.1),(.dt (.sl .rat) (.s 16 (.n 6)) s.2.2.2.1)]) (I (rfl:([]:List WA)=[]) (I (by(try simp only[q6M,q6N,q6Q])<;>omega:o.length+[evS ((auN s (s.2.2.2.2.getD 0 []).length).getD i (0,([],[]))) t].length=(o++[evS ((auN s (s.2.2.2.2.getD 0 []).length).getD i (0,([],[]))) t]).length) (I (by(try simp only[q6M,q6N,q6Q])<;>omega:o.length+[evS ((auN s (s.2.2.2.2.getD 0 []).length).getD i (0,([],[]))) t].length<=16) (q6q (⟨q10 hI.1 hp0.O (by rw[hwl];omega) hwl,by omega⟩:o++[evS ((auN s (s.2.2.2.2.getD 0 []).length).getD i (0,([],[]))) t]=isoH s t (i+1)/\(i+1)<=(auN s (s.2.2.2.2.getD 0 []).length).length) (?_:(auN s (s.2.2.2.2.getD 0 []).length).length-(i+1)<(auN s (s.2.2.2.2.getD 0 []).length).length-i))))))))))) (λh7=>I (?_:o.length=o.length) ((by rw[hI.1,show i=(s.2.2.2.2.getD 0 []).length by omega];rfl:(s.2.1,s.2.2.2.1,o)=jH s t)))))))))))))))⟩<;>omega)
abbrev Er:Ctr Tryz.prog:=FI.c q1X
abbrev Wp:FI:=⟨53,[(.pr (.int .i64) (.pr (.int .i64) (.pr (.sl .rat) (.pr (.sl .rat) (.sl (.sl (.pr (.pr .rat (.pr .rat .rat)) .rat))))))),.rat],[(.p (.n 6) (.p (.n 6) (.p (.s 16 (.n 6)) (.p (.s 16 (.n 6)) (.s 16 (.s 16 (.p (.p (.n 12) (.p (.n 12) (.n 12))) (.n 12)))))))),(.n 16384)],λz=>(λ(s:Int×Int×List Rat×List Rat×List (List ((Rat×Rat×Rat)×Rat)))(t:Rat)=>[IsP s t]) z.1 z.2,λb z=>(λ(s:Int×Int×List Rat×List Rat×List (List ((Rat×Rat×Rat)×Rat)))(t:Rat)=> .tup [.agg [.dt AU bIso (ja (qF s) t).1],.one (.kn .i64 0)]) z.1 z.2⟩
theorem Wq:Wp.OK Tryz.prog:=qB hmix 43 Tryz.func53 rfl rfl (by decide) [(99,.c Er),(100,.o Ep),(101,.c CH)] (λ(s:Int×Int×List Rat×List Rat×List (List ((Rat×Rat×Rat)×Rat)))(t:Rat) b hx hp=>qc (qh (q4T (hp _ q6W:IsP s t).iso)) (qc AQ qy)) (λ(s:Int×Int×List Rat×List Rat×List (List ((Rat×Rat×Rat)×Rat)))(t:Rat) hx hp=>by
 have hp0:IsP s t:=hp _ (q6W)
 refine⟨.pre 5 (.frz 25 true []) (.loop [.s 30 (.nat .i64) (.n 1048576),.ex (gboX 8 90001 [(.dt (.int .i64) (.n 6) ((jH s t).1)),(.dt (.sl .rat) (.s 16 (.n 6)) (((jH s t).2).1))] [] (.pr (.pr .rat (.pr .rat .rat)) .rat) (.p (.p (.n 200000) (.p (.n 200000) (.n 200000))) (.n 200000)) 16)] (λ((i,l):Nat×List ((Rat×Rat×Rat)×Rat))=>l=((jH s t).2.2.take i).map jw/\i<=(jH s t).2.2.length) (λ((i,l):Nat×List ((Rat×Rat×Rat)×Rat))=>(jH s t).2.2.length-i) (λ((i,l):Nat×List ((Rat×Rat×Rat)×Rat))=> .cond (.h 8 1 (.ext DB) (.h 8 4 (.mk (.im (.pr (.pr .rat (.pr .rat .rat)) .rat) (.p (.p (.n 134217728) (.p (.n 134217728) (.n 134217728))) (.n 134217728)))) (.nil))) (.pre 10 (.frz 90001 true []) (.nil)))),kcast (by kernel_rfl) (I (hp0:IsP s t) (I (?_:(((jH s t).2).1).length=(((jH s t).2).1).length) (I (rfl:([(.dt (.int .i64) (.n 6) ((jH s t).1)),(.dt (.sl .rat) (.s 16 (.n 6)) (((jH s t).2).1))]:List WA)=[(.dt (.int .i64) (.n 6) ((jH s t).1)),(.dt (.sl .rat) (.s 16 (.n 6)) (((jH s t).2).1))]) (I (rfl:([]:List WA)=[]) (I (rfl:0=([]:List ((Rat×Rat×Rat)×Rat)).length) (I (⟨rfl,q7G _⟩:([]:List ((Rat×Rat×Rat)×Rat))=((jH s t).2.2.take 0).map jw/\0<=(jH s t).2.2.length) (λ(i:Nat)(l:List ((Rat×Rat×Rat)×Rat))(hb1:HB [.s 30 (.nat .i64) (.n 1048576),.ex (gboX 8 90001 [(.dt (.int .i64) (.n 6) ((jH s t).1)),(.dt (.sl .rat) (.s 16 (.n 6)) (((jH s t).2).1))] [] (.pr (.pr .rat (.pr .rat .rat)) .rat) (.p (.p (.n 200000) (.p (.n 200000) (.n 200000))) (.n 200000)) 16)] (i,l))(hI:l=((jH s t).2.2.take i).map jw/\i<=(jH s t).2.2.length)=>have hv4:=(show i<=1048576 from hb1.1);have hv5:=(show l.length<=16 from hb1.2.1.1);have hil:=(show(jH s t).2.2.length<=16 from(OS hp0).2.2.1);have hol:=(show l.length=i by rw[hI.1,q6P,q6R];omega);Sp (i<(((jH s t).2).2).length) (λh2=>I (?_:i<(((jH s t).2).2).length) (I (?_:l.length=l.length) (I ((λy hy=>by rw[q70.1 hy];exact Vr hp0 (by omega): ∀x∈[jw ((((jH s t).2).2).getD i (0,(0,(0,0))))],Bnd (.pr (.pr .rat (.pr .rat .rat)) .rat) (.p (.p (.n 200000) (.p (.n 200000) (.n 200000))) (.n 200000)) x): ∀x∈[jw ((((jH s t).2).2).getD i (0,(0,(0,0))))],Bnd (.pr (.pr .rat (.pr .rat .rat)) .rat) (.p (.p (.n 200000) (.p (.n 200000) (.n 200000))) (.n 200000)) x) (I (show(i+1)<=1048576 by omega:Bnd (.nat .i64) (.n 1048576) (i+1)) (I (rfl:([(.dt (.int .i64) (.n 6) ((jH s t).1)),(.dt (.sl .rat) (.s 16 (.n 6)) (((jH s t).2).1))]:List WA)=[(.dt (.int .i64) (.n 6) ((jH s t).1)),(.dt (.sl .rat) (.s 16 (.n 6)) (((jH s t).2).1))]) (I (rfl:([]:List WA)=[]) (I (by(try simp only[q6M,q6N,q6Q])<;>omega:l.length+[jw ((((jH s t).2).2).getD i (0,(0,(0,0))))].length=(l++[jw ((((jH s t).2).2).getD i (0,(0,(0,0))))]).length) (I (by(try simp only[q6M,q6N,q6Q])<;>omega:l.length+[jw ((((jH s t).2).2).getD i (0,(0,(0,0))))].length<=16) (q6q (⟨map_d (by omega) hI.1,by omega⟩:l++[jw ((((jH s t).2).2).getD i (0,(0,(0,0))))]=((jH s t).2.2.take (i+1)).map jw/\(i+1)<=(jH s t).2.2.length) (?_:(jH s t).2.2.length-(i+1)<(jH s t).2.2.length-i)))))))))) (λh3=>I (?_:l.length=l.length) ((q13 hp0 hI.1 h3:((jH s t).1,(((jH s t).2).1),l)=(ja (qF s) t).1))))))))))⟩<;>omega)
abbrev Wo:Ctr Tryz.prog:=FI.c Wq
abbrev Rs:FI:=⟨105,[(.sl (.pr .rat (.pr .rat .rat))),(.fn 106)],[(.s 1048576 (.p (.n 134217728) (.p (.n 134217728) (.n 134217728)))),.u],λ_=>[],λb z=>(λ(l:List (Rat×Rat×Rat))(u:Unit)=> .c (.one (.dt (.sl jj) (b0 b) l))) z.1 z.2⟩
theorem Rt:Rs.OK Tryz.prog:=qB hmix 28 Tryz.func105 rfl rfl (by decide) [(106,.c RC)] (λ(l:List (Rat×Rat×Rat))(u:Unit) b hx hp=>qa (Bnds.h2 hx).1 rfl) (λ(l:List (Rat×Rat×Rat))(u:Unit) hx hp=>by
 have hl0:l.length<=1048576:=hx.1.1
 refine⟨.cond (.nil) (.h 3 2 (.mk (.arr (.pr .rat (.pr .rat .rat)) (.p (.n 134217728) (.p (.n 134217728) (.n 134217728))))) (.loop [.s 15 (.nat .i64) (.n 1048576),.a 12 (.pr .rat (.pr .rat .rat)) (.p (.n 134217728) (.p (.n 134217728) (.n 134217728)))] (λ((i,out):Nat×List (Rat×Rat×Rat))=>Cpy l out i) (λ((i,out):Nat×List (Rat×Rat×Rat))=>l.length-i) (λ((i,out):Nat×List (Rat×Rat×Rat))=> .cond (.nil) (.pre 999999 (.frz 12 true [4]) (.nil))))),kcast (by kernel_rfl) (q6q (λ(h1:l=[])=>(by rw[h1]:[]=l)) (I (?_:l.length=l.length) (I (Cpy.start _:Cpy l (List.replicate l.length ((0,(0,0)):Rat×Rat×Rat)) 0) (λ(i:Nat)(out:List (Rat×Rat×Rat))(hb3:HB [.s 15 (.nat .i64) (.n 1048576),.a 12 (.pr .rat (.pr .rat .rat)) (.p (.n 134217728) (.p (.n 134217728) (.n 134217728)))] (i,out))(hI:Cpy l out i)=>have hv6:=(show i<=1048576 from hb3.1);have hIl:=hI.hl;have hIi:=hI.hi;Sp (i<l.length) (λh4=>I (?_:i<l.length) (I (?_:i<l.length) (I (?_:i<out.length) (I (show(i+1)<=1048576 by omega:Bnd (.nat .i64) (.n 1048576) (i+1)) (q6q (hI.step _ (by omega):Cpy l (out.set i (l.getD i (0,(0,0)))) (i+1)) (?_:l.length-(i+1)<l.length-i)))))) (λh5=>I (?_:l.length=out.length) ((hI.fin (by omega):out=l)))))))⟩<;>omega)
abbrev Rr:Ctr Tryz.prog:=FI.c Rt
abbrev q1N:FI:=⟨56,[(.sl (.pr .rat (.pr .rat .rat)))],[(.s 1048576 (.p (.n 134217728) (.p (.n 134217728) (.n 134217728))))],λ_=>[],λb z=>(λ(l:List (Rat×Rat×Rat))=> .c (.one (.dt (.sl jj) (b0 b) l))) z⟩
theorem q1O:q1N.OK Tryz.prog:=qB hmix 5 Tryz.func56 rfl rfl (by decide) [(105,.c Rr)] (λ(l:List (Rat×Rat×Rat)) b hx hp=>qa (Bnds.h1 hx) rfl) (λ(l:List (Rat×Rat×Rat)) hx hp=>by
 refine⟨.nil,kcast (by kernel_rfl) ((Eq.refl l))⟩)
abbrev q1M:Ctr Tryz.prog:=FI.c q1O
abbrev Rp:FI:=⟨55,[(.sl (.sl (.pr .rat (.pr .rat .rat)))),(.fn 56)],[(.s 1048576 (.s 1048576 (.p (.n 134217728) (.p (.n 134217728) (.n 134217728))))),.u],λ_=>[],λb z=>(λ(l:List (List (Rat×Rat×Rat)))(u:Unit)=> .c (.one (.dt (.sl (.sl jj)) (b0 b) l))) z.1 z.2⟩
theorem Rq:Rp.OK Tryz.prog:=qB hmix 28 Tryz.func55 rfl rfl (by decide) [(56,.c q1M)] (λ(l:List (List (Rat×Rat×Rat)))(u:Unit) b hx hp=>qa (Bnds.h2 hx).1 rfl) (λ(l:List (List (Rat×Rat×Rat)))(u:Unit) hx hp=>by
 have hl0:l.length<=1048576:=hx.1.1
 refine⟨.cond (.nil) (.h 3 2 (.mk (.arr (.sl (.pr .rat (.pr .rat .rat))) (.s 1048576 (.p (.n 134217728) (.p (.n 134217728) (.n 134217728)))))) (.loop [.s 15 (.nat .i64) (.n 1048576),.a 12 (.sl (.pr .rat (.pr .rat .rat))) (.s 1048576 (.p (.n 134217728) (.p (.n 134217728) (.n 134217728))))] (λ((i,out):Nat×List (List (Rat×Rat×Rat)))=>Cpy l out i) (λ((i,out):Nat×List (List (Rat×Rat×Rat)))=>l.length-i) (λ((i,out):Nat×List (List (Rat×Rat×Rat)))=> .cond (.nil) (.pre 999999 (.frz 12 true [4]) (.nil))))),kcast (by kernel_rfl) (q6q (λ(h1:l=[])=>(by rw[h1]:[]=l)) (I (?_:l.length=l.length) (I (Cpy.start _:Cpy l (List.replicate l.length ([]:List (Rat×Rat×Rat))) 0) (λ(i:Nat)(out:List (List (Rat×Rat×Rat)))(hb3:HB [.s 15 (.nat .i64) (.n 1048576),.a 12 (.sl (.pr .rat (.pr .rat .rat))) (.s 1048576 (.p (.n 134217728) (.p (.n 134217728) (.n 134217728))))] (i,out))(hI:Cpy l out i)=>have hv6:=(show i<=1048576 from hb3.1);have hIl:=hI.hl;have hIi:=hI.hi;Sp (i<l.length) (λh4=>I (?_:i<l.length) (I (?_:i<l.length) (I (?_:i<out.length) (I (show(i+1)<=1048576 by omega:Bnd (.nat .i64) (.n 1048576) (i+1)) (q6q (hI.step _ (by omega):Cpy l (out.set i (l.getD i [])) (i+1)) (?_:l.length-(i+1)<l.length-i)))))) (λh5=>I (?_:l.length=out.length) ((hI.fin (by omega):out=l)))))))⟩<;>omega)
abbrev Ro:Ctr Tryz.prog:=FI.c Rq
abbrev Rz:FI:=⟨27,[(.sl (.sl (.pr .rat (.pr .rat .rat))))],[(.s 1048576 (.s 1048576 (.p (.n 134217728) (.p (.n 134217728) (.n 134217728)))))],λ_=>[],λb z=>(λ(l:List (List (Rat×Rat×Rat)))=> .c (.one (.dt (.sl (.sl jj)) (b0 b) l))) z⟩
theorem RA:Rz.OK Tryz.prog:=qB hmix 5 Tryz.func27 rfl rfl (by decide) [(55,.c Ro)] (λ(l:List (List (Rat×Rat×Rat))) b hx hp=>qa (Bnds.h1 hx) rfl) (λ(l:List (List (Rat×Rat×Rat))) hx hp=>by
 refine⟨.nil,kcast (by kernel_rfl) ((Eq.refl l))⟩)
abbrev Ry:Ctr Tryz.prog:=FI.c RA
def rwG(s:qP)(u:Rat)(vs:List Rat):Nat->List V3
 |0=>[]
 |n+1=>rwG s u vs n++[evV (ja (qF s) u).1 (vs.getD n 0)]
theorem Fo(s:qP)(u:Rat)(vs:List Rat): ∀n,(rwG s u vs n).length=n
 |0=>rfl
 |n+1=>by simp only[rwG,q6M,Fo s u vs n,q6N,q6Q]
structure RwP (s:qP) (u:Rat) (vs:List Rat):Prop where
 isp:IsP s u
 ev: ∀i,i<vs.length->EvC (ja (qF s) u).1 (vs.getD i 0)
 ip:IpO (ja (qF s) u).1.2.1 (ja (qF s) u).1.1.toNat
 ck:qM (ja (qF s) u).1.2.1 (ja (qF s) u).1.1=0
 vl:vs.length<=64
theorem q5K{s:qP}{u:Rat}{vs:List Rat}{i:Nat}{l:List V3}(h:l=rwG s u vs i):l++[evV (ja (qF s) u).1 (vs.getD i 0)]=rwG s u vs (i+1):=by rw[h];rfl
abbrev bRw:Bd:= .s 64 (bV3 67108868)
theorem Tz{s:qP}{u:Rat}{vs:List Rat}(h:RwP s u vs): ∀n,n<=vs.length-> ∀p∈rwG s u vs n,Bnd jj (bV3 67108868) p
 |0,_,p,hp=>by cases hp
 |n+1,hn,p,hp=>by
  simp only[rwG,q6T,q70]at hp;rcases hp with hp|hp
  .exact Tz h n (by omega) p hp
  .rw[hp];exact Jd (h.ev n (by omega))
theorem TB{s:qP}{u:Rat}{vs:List Rat}(h:RwP s u vs):Bnd (.sl jj) bRw (rwG s u vs vs.length):=⟨by rw[Fo];exact h.vl,Tz h _ (q7j _)⟩
def grG(s:qP)(us vs:List Rat):Nat->List (List V3)
 |0=>[]
 |n+1=>grG s us vs n++[rwG s (us.getD n 0) vs vs.length]
theorem F1(s:qP)(us vs:List Rat): ∀n,(grG s us vs n).length=n
 |0=>rfl
 |n+1=>by simp only[grG,q6M,F1 s us vs n,q6N,q6Q]
theorem q4K{s:qP}{us vs:List Rat}{i:Nat}{l:List (List V3)}(h:l=grG s us vs i):l++[rwG s (us.getD i 0) vs vs.length]=grG s us vs (i+1):=by rw[h];rfl
abbrev q24:FI:=⟨26,[(.pr (.int .i64) (.pr (.int .i64) (.pr (.sl .rat) (.pr (.sl .rat) (.sl (.sl (.pr (.pr .rat (.pr .rat .rat)) .rat))))))),.rat,(.sl .rat)],[(.p (.n 6) (.p (.n 6) (.p (.s 16 (.n 6)) (.p (.s 16 (.n 6)) (.s 16 (.s 16 (.p (.p (.n 12) (.p (.n 12) (.n 12))) (.n 12)))))))),(.n 16384),(.s 1048576 (.n 16384))],λz=>(λ(s:Int×Int×List Rat×List Rat×List (List ((Rat×Rat×Rat)×Rat)))(u:Rat)(vs:List Rat)=>[RwP s u vs]) z.1 z.2.1 z.2.2,λb z=>(λ(s:Int×Int×List Rat×List Rat×List (List ((Rat×Rat×Rat)×Rat)))(u:Rat)(vs:List Rat)=> .c (.one (.dt (.sl jj) bRw (rwG s u vs vs.length)))) z.1 z.2.1 z.2.2⟩
theorem q25:q24.OK Tryz.prog:=qB hmix 38 Tryz.func26 rfl rfl (by decide) [(53,.c Wo),(54,.c RG)] (λ(s:Int×Int×List Rat×List Rat×List (List ((Rat×Rat×Rat)×Rat)))(u:Rat)(vs:List Rat) b hx hp=>qa (TB (hp _ q6W)) rfl) (λ(s:Int×Int×List Rat×List Rat×List (List ((Rat×Rat×Rat)×Rat)))(u:Rat)(vs:List Rat) hx hp=>by
 have hl2:vs.length<=1048576:=hx.2.2.1;have hp0:RwP s u vs:=hp _ (q6W)
 refine⟨.loop [.s 22 (.nat .i64) (.n 1048576),.g 7 90001 (.pr .rat (.pr .rat .rat)) (.p (.n 67108868) (.p (.n 67108868) (.n 67108868))) 64] (λ((i,l):Nat×List (Rat×Rat×Rat))=>l=rwG s u vs i/\i<=vs.length) (λ((i,l):Nat×List (Rat×Rat×Rat))=>vs.length-i) (λ((i,l):Nat×List (Rat×Rat×Rat))=> .cond (.h 7 2 (.mk (.im (.pr .rat (.pr .rat .rat)) (.p (.n 67108868) (.p (.n 67108868) (.n 67108868))))) (.nil)) (.pre 9 (.frz 90001 true [7]) (.nil))),kcast (by kernel_rfl) (I (hp0.isp:IsP s u) (I (rfl:0=([]:List (Rat×Rat×Rat)).length) (I (⟨rfl,q7G _⟩:([]:List (Rat×Rat×Rat))=rwG s u vs 0/\0<=vs.length) (λ(i:Nat)(l:List (Rat×Rat×Rat))(hb1:HB [.s 22 (.nat .i64) (.n 1048576),.g 7 90001 (.pr .rat (.pr .rat .rat)) (.p (.n 67108868) (.p (.n 67108868) (.n 67108868))) 64] (i,l))(hI:l=rwG s u vs i/\i<=vs.length)=>have hv4:=(show i<=1048576 from hb1.1);have hv5:=(show l.length<=64 from hb1.2.1);have hvl:=hp0.vl;have hol:=(show l.length=i by rw[hI.1,Fo]);Sp (i<vs.length) (λh2=>I (?_:i<vs.length) (I (hp0.ev i (by omega):EvC ((ja (qF s) u).1) (vs.getD i 0)) (I (hp0.ip:IpO ((ja (qF s) u).1).2.1 ((ja (qF s) u).1).1.toNat) (I (hp0.ck:qM ((ja (qF s) u).1).2.1 ((ja (qF s) u).1).1=0) (I (?_:l.length=l.length) (I (show(i+1)<=1048576 by omega:Bnd (.nat .i64) (.n 1048576) (i+1)) (I (by(try simp only[q6M,q6N,q6Q])<;>omega:l.length+[evV ((ja (qF s) u).1) (vs.getD i 0)].length=(l++[evV ((ja (qF s) u).1) (vs.getD i 0)]).length) (I (by(try simp only[q6M,q6N,q6Q])<;>omega:l.length+[evV ((ja (qF s) u).1) (vs.getD i 0)].length<=64) (q6q (⟨q5K hI.1,by omega⟩:l++[evV ((ja (qF s) u).1) (vs.getD i 0)]=rwG s u vs (i+1)/\(i+1)<=vs.length) (?_:vs.length-(i+1)<vs.length-i)))))))))) (λh3=>I (?_:l.length=l.length) ((by rw[hI.1,show i=vs.length by omega]:l=rwG s u vs vs.length)))))))⟩<;>omega)
abbrev q23:Ctr Tryz.prog:=FI.c q25
abbrev V8:FI:=⟨12,[(.sl (.sl (.pr .rat (.pr .rat .rat)))),(.sl (.sl (.pr .rat (.pr .rat .rat))))],[(.s 1048576 (.s 1048576 (.p (.n 67108868) (.p (.n 67108868) (.n 67108868))))),(.s 1048576 (.s 1048576 (.p (.n 67108868) (.p (.n 67108868) (.n 67108868)))))],λz=>(λ(x:List (List (Rat×Rat×Rat)))(y:List (List (Rat×Rat×Rat)))=>[x=y]) z.1 z.2,λb z=> .c (.one (.dt .bool .u true))⟩
theorem V9:V8.OK Tryz.prog:=qB hmix 54 Tryz.func12 rfl rfl (by decide) [(17,.c L1)] (λ(x:List (List (Rat×Rat×Rat)))(y:List (List (Rat×Rat×Rat))) b hx hp=>qa trivial rfl) (λ(x:List (List (Rat×Rat×Rat)))(y:List (List (Rat×Rat×Rat))) hx hp=>by
 have hl0:x.length<=1048576:=hx.1.1;have hl1:y.length<=1048576:=hx.2.1;have hp0:x=y:=hp _ (q6W)
 refine⟨.cond (.dead) (.loop [.s 5 (.nat .i64) (.n 1048576)] (λ(i:Nat)=>i<=x.length) (λ(i:Nat)=>x.length-i) (λ(i:Nat)=> .cond (.cond (.dead) (.loop [.s 6 (.nat .i64) (.n 1048576)] (λ(j:Nat)=>j<=(x.getD i []).length) (λ(j:Nat)=>(x.getD i []).length-j) (λ(j:Nat)=> .cond (.cond (.dead) (.nil)) (.nil)))) (.nil))),kcast (by kernel_rfl) (Sp (x.length≠y.length) (λh1=>(h1 (by rw[hp0]):False)) (λh2=>I (q7G _:0<=x.length) (λ(i:Nat)(hb3:HB [.s 5 (.nat .i64) (.n 1048576)] i)(hI:i<=x.length)=>have hv14:=(show i<=1048576 from hb3);have hle:=(show x.length=y.length by rw[hp0]);have hle2:=(show(x.getD i []).length=(y.getD i []).length by rw[hp0]);have hyl:=(show i<y.length->(y.getD i []).length<=1048576 from λh=>(hx.2.2 _ (by rw[vq h];exact List.getElem_mem h)).1);Sp (i<x.length) (λh4=>I (?_:i<x.length) (I (?_:i<y.length) (Sp ((x.getD i []).length≠(y.getD i []).length) (λh5=>(h5 (by rw[hp0]):False)) (λh6=>I (q7G _:0<=(x.getD i []).length) (λ(j:Nat)(hb7:HB [.s 6 (.nat .i64) (.n 1048576)] j)(hJ:j<=(x.getD i []).length)=>have hv12:=(show j<=1048576 from hb7);I (?_:i<x.length) (Sp (j<(x.getD i []).length) (λh8=>I (?_:i<x.length) (I (by(try simp only[q6M,q6N,q6Q])<;>omega:j<(x.getD i []).length) (I (?_:i<y.length) (I (by(try simp only[q6M,q6N,q6Q])<;>omega:j<(y.getD i []).length) (Sp ((!(decide (((x.getD i []).getD j (0,(0,0)))=((y.getD i []).getD j (0,(0,0))))))=true) (λh9=>(nd h9 (by rw[hp0]):False)) (λh10=>I (show(j+1)<=1048576 by omega:Bnd (.nat .i64) (.n 1048576) (j+1)) (q6q (?_:(j+1)<=(x.getD i []).length) (?_:(x.getD i []).length-(j+1)<(x.getD i []).length-j)))))))) (λh11=>I (show(i+1)<=1048576 by omega:Bnd (.nat .i64) (.n 1048576) (i+1)) (q6q (?_:(i+1)<=x.length) (?_:x.length-(i+1)<x.length-i))))))))) (λh13=>(Eq.refl true)))))⟩<;>omega)
abbrev V7:Ctr Tryz.prog:=FI.c V9
section
def stG(a s:Rat):Nat->List Rat
 |0=>[]
 |j+1=>stG a s j++[a+(((j+1:Nat):Int):Rat)*s]
def ppN(k:List Rat)(m:Nat):Nat->List Rat
 |0=>[k.getD 0 0]
 |i+1=>if k.getD i 0=k.getD (i+1) 0 then ppN k m i else ppN k m i++stG (k.getD i 0) ((k.getD (i+1) 0-k.getD i 0)/(((m:Nat):Int):Rat)) m
def qW(k:List Rat)(m:Nat):List Rat:=ppN k m (k.length-1)
def rrG(a d:Rat)(m:Nat):Nat->List Rat
 |0=>[]
 |j+1=>rrG a d m j++[a+((j:Nat):Int)/(((m:Nat):Int):Rat)*d]
def prN(l:List Rat)(m:Nat):Nat->List Rat
 |0=>[]
 |i+1=>prN l m i++rrG (l.getD i 0) (l.getD (i+1) 0-l.getD i 0) m m
def prV(k:List Rat)(m:Nat):List Rat:=prN (dst k) m ((dst k).length-1)++[(dst k).getD ((dst k).length-1) 0]
theorem Im(a s:Rat): ∀j,(stG a s j).length=j
 |0=>rfl
 |j+1=>by simp only[stG,q6M,Im a s j,q6N,q6Q]
theorem Ie(a d:Rat)(m:Nat): ∀j,(rrG a d m j).length=j
 |0=>rfl
 |j+1=>by simp only[rrG,q6M,Ie a d m j,q6N,q6Q]
theorem Mf(k:List Rat)(m:Nat): ∀i,(ppN k m i).length<=1+i*m/\1<=(ppN k m i).length
 |0=>by simp[ppN]
 |i+1=>by
  have h:=Mf k m i;rw[ppN,q7E];split
  .omega
  .rw[q6M,Im];omega
theorem Mg(l:List Rat)(m:Nat): ∀i,(prN l m i).length=i*m
 |0=>by simp[prN]
 |i+1=>by rw[prN,q6M,Mg l m i,Ie,q7E]
def KnU(d:Int)(k:List Rat):Prop:=
 ∃t w:Rat,t<w/\HZ 40 t/\HZ 40 w/\((d=1/\(k=[t,t,w,w]\/ ∃u,t<u/\u<w/\HZ 40 u/\k=[t,t,u,w,w]))\/(d=2/\(k=[t,t,t,w,w,w]\/ ∃u,t<u/\u<w/\HZ 40 u/\k=[t,t,t,u,w,w,w])))
theorem HJ(t:Rat)(s:j4):t<addT t s:=by
 have h1:=jT s (m:=3) (by omega);have h2:=jT (qb s) (m:=2) (by omega);unfold addT;have p1:(0:Rat)<((1+qd s 3:Int):Rat):=Rat.intCast_pos.2 (by omega);have p2:(0:Rat)<((1+qd (qb s) 2:Int):Rat):=Rat.intCast_pos.2 (by omega);have p:(0:Rat)<((1+qd s 3:Int):Rat)/((1+qd (qb s) 2:Int):Rat):=by rw[Rat.div_def];exact Rat.mul_pos p1 (Rat.inv_pos.2 p2)
 grind
theorem He(t:Rat):t<t+((1:Int):Rat):=by
 have:((1:Int):Rat)=1:=rfl;rw[this];grind
theorem Kq{d inner:Int}(s:j4)(h1:1<=d)(h2:d<=2)(h0:0<=inner)(h3:inner<=1):KnU d (js d inner s):=by
 have hq:=jT (qb s) (m:=inner+1) (by omega);have ht:=(N5 d s).t;have hc:(qd (qb s) (inner+1)).toNat=0\/(qd (qb s) (inner+1)).toNat=1:=by omega
 have hd:d=1\/d=2:=by omega
 have e0:(kn0 d s).2.1=((qd s 4-2:Int):Rat):=rfl;rw[e0]at ht;unfold js knR;rcases hc with c|c<;>rw[c]
 .show KnU d (List.replicate (d+1).toNat ((qd s 4-2:Int):Rat)++List.replicate (d+1).toNat (((qd s 4-2:Int):Rat)+((1:Int):Rat)))
  refine⟨_,_,He _,ht.le (by decide),ht.one.le (by decide),?_⟩;rcases hd with rfl|rfl
  .exact .inl ⟨rfl,.inl rfl⟩
  .exact .inr ⟨rfl,.inl rfl⟩
 .have e:knN d 1 (kn0 d s)=(List.replicate (d+1).toNat ((qd s 4-2:Int):Rat)++[addT ((qd s 4-2:Int):Rat) (qb (qb s))],addT ((qd s 4-2:Int):Rat) (qb (qb s)),qb (qb (qb (qb s)))):=
   Tn (by rw[List.length_replicate];omega)
  rw[e];refine⟨((qd s 4-2:Int):Rat),addT ((qd s 4-2:Int):Rat) (qb (qb s))+((1:Int):Rat),?_,ht.le (by decide),(ht.addT _).one.le (by decide),?_⟩
  .have a:=HJ ((qd s 4-2:Int):Rat) (qb (qb s))
   have b:=He (addT ((qd s 4-2:Int):Rat) (qb (qb s)))
   grind
  .rcases hd with rfl|rfl
   .exact .inl ⟨rfl,.inr ⟨_,HJ _ _,He _,(ht.addT _).le (by decide),rfl⟩⟩
   .exact .inr ⟨rfl,.inr ⟨_,HJ _ _,He _,(ht.addT _).le (by decide),rfl⟩⟩
theorem Bq{x y:Rat}(h:y<=x): ¬j5 x y<0:=λg=>absurd (ES.1 g) (Rat.not_lt.2 h)
section
variable {d:Int} {k:List Rat}
theorem KnU.dr(h:KnU d k):1<=d/\d<=2:=by
 obtain⟨t,w,_,_,_,⟨rfl,_⟩|⟨rfl,_⟩⟩:=h<;>decide
theorem KnU.l(h:KnU d k):2*d.toNat+2<=k.length/\k.length<=2*d.toNat+3:=by
 obtain⟨t,w,_,_,_,⟨rfl,rfl|⟨u,_,_,_,rfl⟩⟩|⟨rfl,rfl|⟨u,_,_,_,rfl⟩⟩⟩:=h<;>exact⟨by simp,by simp⟩
theorem KnU.b(h:KnU d k):Bnd (.sl .rat) (.s 16 (.n 6)) k:=by
 obtain⟨t,w,_,ht,hw,⟨rfl,rfl|⟨u,_,_,hu,rfl⟩⟩|⟨rfl,rfl|⟨u,_,_,hu,rfl⟩⟩⟩:=h<;>refine⟨by simp,λx hx=>?_⟩<;>simp only[q6U,q72,or_false]at hx
 .rcases hx with rfl|rfl|rfl|rfl<;>first|exact ht.bnd|exact hw.bnd
 .rcases hx with rfl|rfl|rfl|rfl|rfl<;>first|exact ht.bnd|exact hw.bnd|exact hu.bnd
 .rcases hx with rfl|rfl|rfl|rfl|rfl|rfl<;>first|exact ht.bnd|exact hw.bnd
 .rcases hx with rfl|rfl|rfl|rfl|rfl|rfl|rfl<;>first|exact ht.bnd|exact hw.bnd|exact hu.bnd
theorem KnU.chk(h:KnU d k):qM k d=0:=by
 obtain⟨t,w,h0,_,_,⟨rfl,rfl|⟨u,h1,h2,_,rfl⟩⟩|⟨rfl,rfl|⟨u,h1,h2,_,rfl⟩⟩⟩:=h
 all_goals
  have e1:=Rat.ne_of_lt h0;have e2:w≠t:=e1.symm;have q:=Bq (Rat.le_of_lt h0);have q1:=Bq (Rat.le_refl (a:=t));have q2:=Bq (Rat.le_refl (a:=w))
 .simp[qM,vF,okN,vO,dst,jG,je,e1,e2,q,q1,q2]
 .have f1:=Rat.ne_of_lt h1;have f2:=f1.symm;have g1:=Rat.ne_of_lt h2;have g2:=g1.symm
  have r1:=Bq (Rat.le_of_lt h1);have r2:=Bq (Rat.le_of_lt h2)
  simp[qM,vF,okN,vO,dst,jG,je,e1,e2,q1,q2,f1,f2,g1,g2,r1,r2]
 .simp[qM,vF,okN,vO,dst,jG,je,e1,e2,q,q1,q2]
 .have f1:=Rat.ne_of_lt h1;have f2:=f1.symm;have g1:=Rat.ne_of_lt h2;have g2:=g1.symm
  have r1:=Bq (Rat.le_of_lt h1);have r2:=Bq (Rat.le_of_lt h2)
  simp[qM,vF,okN,vO,dst,jG,je,e1,e2,q1,q2,f1,f2,g1,g2,r1,r2]
theorem KX{k:List Rat}(h: ∀a,a+1<k.length->k.getD a 0<=k.getD (a+1) 0): ∀n a b,b=a+n->b<k.length->k.getD a 0<=k.getD b 0
 |0,a,b,e,hb=>by rw[e];exact Rat.le_refl
 |n+1,a,b,e,hb=>Rat.le_trans (KX h n a (a+n) rfl (by omega)) (by rw[e];exact h (a+n) (by omega))
theorem KnU.ip(h:KnU d k):IpO k d.toNat:=by
 have key: ∀{k:List Rat},(∀a,a+1<k.length->k.getD a 0<=k.getD (a+1) 0)-> ∀a b,a<=b->b<k.length->k.getD a 0<=k.getD b 0:=λh a b e hb=>KX h (b-a) a b (by omega) hb
 obtain⟨t,w,h0,_,_,⟨rfl,rfl|⟨u,h1,h2,_,rfl⟩⟩|⟨rfl,rfl|⟨u,h1,h2,_,rfl⟩⟩⟩:=h
 .exact⟨key λa ha=>match a,ha with
   |0,_=>Rat.le_refl|1,_=>Rat.le_of_lt h0|2,_=>Rat.le_refl|n+3,h=>absurd h (by simp),by simp,h0,Rat.le_refl,Rat.le_refl⟩
 .exact⟨key λa ha=>match a,ha with
   |0,_=>Rat.le_refl|1,_=>Rat.le_of_lt h1|2,_=>Rat.le_of_lt h2|3,_=>Rat.le_refl|n+4,h=>absurd h (by simp),by simp,h2,Rat.le_refl,Rat.le_refl⟩
 .exact⟨key λa ha=>match a,ha with
   |0,_=>Rat.le_refl|1,_=>Rat.le_refl|2,_=>Rat.le_of_lt h0|3,_=>Rat.le_refl|4,_=>Rat.le_refl|n+5,h=>absurd h (by simp),by simp,h0,Rat.le_refl,Rat.le_refl⟩
 .exact⟨key λa ha=>match a,ha with
   |0,_=>Rat.le_refl|1,_=>Rat.le_refl|2,_=>Rat.le_of_lt h1|3,_=>Rat.le_of_lt h2|4,_=>Rat.le_refl|5,_=>Rat.le_refl|n+6,h=>absurd h (by simp),by simp,h2,Rat.le_refl,Rat.le_refl⟩
end
def QZ(x:Rat):Prop:= ∃z:Int,x*4=(z:Rat)/\z.natAbs<=160
theorem QZ.bnd{x:Rat}(h:QZ x):Bnd .rat (.n 8) x:=by
 obtain⟨z,a,b⟩:=h;have e2:((4:Int):Rat)=4:=rfl
 have e:x=(z:Rat)/((4:Int):Rat):=by
  have:=EV (x:=(z:Rat)) (y:=((4:Int):Rat)) (by rw[e2];decide);rw[e2]at this⊢;generalize(z:Rat)/4=u at*;grind
 rw[e];exact qE (zZ (n:=z) (d:=4) (b:=160) (c:=4) b (by decide)) (by decide)
theorem HZ.q{x:Rat}(h:HZ 40 x):QZ x:=by
 obtain⟨z,a,b⟩:=h;refine⟨2*z,?_,by omega⟩;rw[Rat.intCast_mul,<-a];have e2:((2:Int):Rat)=2:=rfl
 rw[e2];grind
theorem HZ.mid{x y:Rat}(h:HZ 40 x)(g:HZ 40 y):QZ (x+(y-x)/2):=by
 obtain⟨z,a,b⟩:=h;obtain⟨z2,a2,b2⟩:=g;refine⟨z+z2,?_,by omega⟩;rw[Rat.intCast_add,<-a,<-a2];grind
structure PaO (k:List Rat) (x:Rat):Prop where
 q:QZ x
 a:k.getD 0 0<=x
 b:x<=k.getD (k.length-1) 0
theorem PaO.o{k:List Rat}{x:Rat}(h:PaO k x): ¬ivO k x:=by
 rintro(g|g)
 .exact Bq h.a g
 .exact absurd (q4u.1 g) (Rat.not_lt.2 h.b)
theorem pr1{t w:Rat}(m:Nat):t+((0:Nat):Int)/(((m:Nat):Int):Rat)*(w-t)=t:=by
 have e1:(((0:Nat):Int):Rat)=0:=rfl;rw[e1,Rat.div_def,Rat.zero_mul,Rat.zero_mul,Rat.add_zero]
theorem pr2{t w:Rat}:t+((1:Nat):Int)/(((2:Nat):Int):Rat)*(w-t)=t+(w-t)/2:=by
 have e1:(((1:Nat):Int):Rat)=1:=rfl;have e2:(((2:Nat):Int):Rat)=2:=rfl;rw[e1,e2];grind
structure PaL (k:List Rat) (m:Nat):Prop where
 e:prV k m=qW k m
 l:(qW k m).length<=5
 p:1<=(qW k m).length
 m: ∀x∈qW k m,PaO k x
theorem Hg{k l:List Rat}{m:Nat}(h1:qW k m=l)(h2:prV k m=l)(h3:l.length<=5)(h5:1<=l.length)(h4: ∀x∈l,PaO k x):PaL k m:=⟨by rw[h1,h2],by rw[h1];exact h3,by rw[h1];exact h5,by rw[h1];exact h4⟩
theorem Kw{t w:Rat}(h:t<w):t<t+(w-t)/2/\t+(w-t)/2<w:=by constructor<;>grind
theorem KnU.pa{d:Int}{k:List Rat}(h:KnU d k){m:Nat}(hm:m=1\/m=2):PaL k m:=by
 obtain⟨t,w,h0,zt,zw,h⟩:=h;have e1:=Rat.ne_of_lt h0;have e2:w≠t:=e1.symm;have n0:=Kw h0
 have c1:(k=[t,t,w,w]\/k=[t,t,t,w,w,w])\/ ∃u,t<u/\u<w/\HZ 40 u/\(k=[t,t,u,w,w]\/k=[t,t,t,u,w,w,w]):=by
  rcases h with⟨_,h|⟨u,a,b,c,h⟩⟩|⟨_,h|⟨u,a,b,c,h⟩⟩
  .exact .inl (.inl h)
  .exact .inr ⟨u,a,b,c,.inl h⟩
  .exact .inl (.inr h)
  .exact .inr ⟨u,a,b,c,.inr h⟩
 rcases c1 with c|⟨u,h1,h2,zu,c⟩
 .have ends:k.getD 0 0=t/\k.getD (k.length-1) 0=w:=by rcases c with rfl|rfl<;>exact⟨rfl,rfl⟩
  have pt:PaO k t:=⟨zt.q,by rw[ends.1];exact Rat.le_refl,by rw[ends.2];exact Rat.le_of_lt h0⟩;have pw:PaO k w:=⟨zw.q,by rw[ends.1];exact Rat.le_of_lt h0,by rw[ends.2];exact Rat.le_refl⟩;have pm:PaO k (t+(w-t)/2):=⟨zt.mid zw,by rw[ends.1];exact Rat.le_of_lt n0.1,by rw[ends.2];exact Rat.le_of_lt n0.2⟩;rcases hm with rfl|rfl
  .refine Hg (l:=[t,w]) ?_ ?_ (by simp) (by simp) (λx hx=>?_)
   .rcases c with rfl|rfl<;>simp[qW,ppN,stG,e1]<;>grind
   .rcases c with rfl|rfl<;>simp[prV,prN,rrG,dst,jG,e2]<;>exact pr1 1
   .simp only[q6U,q72,or_false]at hx
    rcases hx with rfl|rfl<;>assumption
  .refine Hg (l:=[t,t+(w-t)/2,w]) ?_ ?_ (by simp) (by simp) (λx hx=>?_)
   .rcases c with rfl|rfl<;>simp[qW,ppN,stG,e1]<;>grind
   .rcases c with rfl|rfl<;>simp[prV,prN,rrG,dst,jG,e2]<;>exact⟨pr1 2,pr2⟩
   .simp only[q6U,q72,or_false]at hx
    rcases hx with rfl|rfl|rfl<;>assumption
 .have f1:=Rat.ne_of_lt h1;have f2:=f1.symm;have g1:=Rat.ne_of_lt h2;have g2:=g1.symm
  have n1:=Kw h1;have n2:=Kw h2
  have ends:k.getD 0 0=t/\k.getD (k.length-1) 0=w:=by rcases c with rfl|rfl<;>exact⟨rfl,rfl⟩
  have pt:PaO k t:=⟨zt.q,by rw[ends.1];exact Rat.le_refl,by rw[ends.2];exact Rat.le_of_lt h0⟩;have pw:PaO k w:=⟨zw.q,by rw[ends.1];exact Rat.le_of_lt h0,by rw[ends.2];exact Rat.le_refl⟩;have pu:PaO k u:=⟨zu.q,by rw[ends.1];exact Rat.le_of_lt h1,by rw[ends.2];exact Rat.le_of_lt h2⟩;have pm:PaO k (t+(u-t)/2):=⟨zt.mid zu,by rw[ends.1];exact Rat.le_of_lt n1.1,by rw[ends.2];have:=n1.2;grind⟩;have pm2:PaO k (u+(w-u)/2):=⟨zu.mid zw,by rw[ends.1];have:=n2.1;grind,by rw[ends.2];exact Rat.le_of_lt n2.2⟩;rcases hm with rfl|rfl
  .refine Hg (l:=[t,u,w]) ?_ ?_ (by simp) (by simp) (λx hx=>?_)
   .rcases c with rfl|rfl<;>simp[qW,ppN,stG,f1,g1]<;>grind
   .rcases c with rfl|rfl<;>simp[prV,prN,rrG,dst,jG,f2,g2]<;>exact⟨pr1 1,pr1 1⟩
   .simp only[q6U,q72,or_false]at hx
    rcases hx with rfl|rfl|rfl<;>assumption
  .refine Hg (l:=[t,t+(u-t)/2,u,u+(w-u)/2,w]) ?_ ?_ (by simp) (by simp) (λx hx=>?_)
   .rcases c with rfl|rfl<;>simp[qW,ppN,stG,f1,g1]<;>grind
   .rcases c with rfl|rfl<;>simp[prV,prN,rrG,dst,jG,f2,g2]<;>exact⟨pr1 2,pr2,pr1 2,pr2⟩
   .simp only[q6U,q72,or_false]at hx
    rcases hx with rfl|rfl|rfl|rfl|rfl<;>assumption
theorem LE{n:Int}(h0:0<=n)(h1:n<=1):qK .shl .i64 1 n ((2^n.toNat:Nat):Int):=by
 have:n=0\/n=1:=by omega
 rcases this with rfl|rfl<;>exact⟨by decide,by decide⟩
theorem Hw{n:Int}(h0:0<=n)(h1:n<=1):2^n.toNat<=2:=by
 have:n=0\/n=1:=by omega
 rcases this with rfl|rfl<;>decide
theorem sh_c{n:Int}(h0:0<=n)(h1:n<=1):2^n.toNat=1\/2^n.toNat=2:=by
 have:n=0\/n=1:=by omega
 rcases this with rfl|rfl<;>decide
theorem PaL.bnd{k:List Rat}{m:Nat}(h:PaL k m):Bnd (.sl .rat) (.s 64 (.n 26)) (qW k m):=⟨by have:=h.l;omega,λx hx=>qE (h.m x hx).q.bnd (by decide)⟩
section
variable {k l o:List Rat} {m i j:Nat} {a s:Rat}
theorem cq_0{x y:Rat}:j5 x y=0↔x=y:=by unfold j5;(repeat' split)<;>grind
theorem pp_a(h:l=ppN k m (i-1))(h1:1<=i)(hc:j5 (k.getD (i-1) 0) (k.getD i 0)=0):l=ppN k m (i+1-1):=by
 rw[h,show i+1-1=i-1+1 by omega,ppN,show i-1+1=i by omega,if_pos (cq_0.1 hc)]
theorem pp_b(h:l=ppN k m (i-1))(h1:1<=i)(hc: ¬j5 (k.getD (i-1) 0) (k.getD i 0)=0)(ho:o=l++stG (k.getD (i-1) 0) ((k.getD i 0-k.getD (i-1) 0)/(((m:Nat):Int):Rat)) (j-1))(hj:j-1=m):o=ppN k m (i+1-1):=by
 rw[ho,hj,show i+1-1=i-1+1 by omega,ppN,show i-1+1=i by omega,if_neg (mt cq_0.2 hc),h]
theorem st_s(h:o=l++stG a s (j-1))(h1:1<=j):o++[a+((j:Nat):Int)*s]=l++stG a s (j+1-1):=by
 rw[h,show j+1-1=j-1+1 by omega,stG,show j-1+1=j by omega,q6y]
theorem q1Y(h:l=ppN k m (i-1))(h2:i<=k.length)(h3: ¬i<k.length):l=qW k m:=by rw[h,qW,show k.length=i by omega]
theorem q5B(hk:k.length<=16)(hm:m<=2)(h:l=ppN k m (i-1))(h2:i<=k.length):l.length<=31:=by
 have a:=(Mf k m (i-1)).1;have b:(i-1)*m<=15*2:=q7v (by omega) hm;rw[h];omega
end
theorem XC{n:Int}(h0:0<=n)(h1:n<=1):IntKind.wrap .u64 n=((n.toNat:Nat):Int):=by
 have:n=0\/n=1:=by omega
 rcases this with rfl|rfl<;>decide
theorem TT{n:Int}(h0:0<=n)(h1:n<=1):qK .shl .i64 1 ((n.toNat:Nat):Int) ((2^n.toNat:Nat):Int):=by
 have:n=0\/n=1:=by omega
 rcases this with rfl|rfl<;>exact⟨by decide,by decide⟩
section
variable {k l o:List Rat} {m i j:Nat} {a d:Rat}
theorem Kc: ∀n,1<=n->1<=(jG k n).length
 |n+1,_=>by
  rw[jG];split
  .simp
  .rename_i h
   exact Kc n (by omega)
theorem q4z(h:k.length<=16)(h1:1<=k.length):1<=(dst k).length/\(dst k).length<=16:=⟨Kc _ h1,q7k (An k _) h⟩
theorem q22(hk:1<=(dst k).length/\(dst k).length<=16)(hm:m<=2)(h:l=prN (dst k) m i)(h2:i+1<=(dst k).length):l.length<=30:=by
 rw[h,Mg];exact q7k (q7v (show i<=15 by omega) hm) (by decide)
theorem rr_s(h:o=l++rrG a d m j):o++[a+((j:Nat):Int)/(((m:Nat):Int):Rat)*d]=l++rrG a d m (j+1):=by rw[h,rrG,q6y]
theorem pr_s(h:l=prN (dst k) m i)(ho:o=l++rrG ((dst k).getD i 0) ((dst k).getD (i+1) 0-(dst k).getD i 0) m j)(hj:j=m):o=prN (dst k) m (i+1):=by rw[ho,hj,h];rfl
theorem q21(hP:PaL k m)(h:l=prN (dst k) m i)(hi:i=(dst k).length-1):l++[(dst k).getD ((dst k).length-1) 0]=qW k m:=by
 rw[<-hP.e,h,hi];rfl
end
end
abbrev q1Z:FI:=⟨25,[(.sl .rat),(.int .i64)],[(.s 16 (.n 6)),(.n 9223372036854775808)],λz=>(λ(k:List Rat)(n:Int)=>[PaL k (2^n.toNat),0<=n,n<=1,1<=k.length]) z.1 z.2,λb z=>(λ(k:List Rat)(n:Int)=> .c (.one (.dt (.sl .rat) (.s 64 (.n 26)) (qW k (2^n.toNat))))) z.1 z.2⟩
theorem q20:q1Z.OK Tryz.prog:=qB hmix 61 Tryz.func25 rfl rfl (by decide) [(47,.c jQ),(48,.c wR),(49,.c vt),(50,.c wQ),(51,.c qA),(52,.c j8)] (λ(k:List Rat)(n:Int) b hx hp=>qa (hp _ q6W:PaL k (2^n.toNat)).bnd rfl) (λ(k:List Rat)(n:Int) hx hp=>by
 have hl0:k.length<=16:=hx.1.1;have hx1:Int.natAbs n<=9223372036854775808:=hx.2;have hp0:PaL k (2^n.toNat):=hp _ (q6W);have hp1:0<=n:=hp _ (q6V _ (q6W));have hp2:n<=1:=hp _ (q6V _ (q6V _ (q6W)));have hp3:1<=k.length:=hp _ (q6V _ (q6V _ (q6V _ (q6W))));have hkl:k.length<=16:=hx.1.1;have hm2:=Hw hp1 hp2;have hm1:1<=2^n.toNat:=Nat.one_le_two_pow
 refine⟨.h 1 3 (.mk (.gro .rat (.n 26))) (.loop [.s 6 (.nat .i64) (.n 1048576),.g 5 90002 .rat (.n 26) 64] (λ((i,l):Nat×List Rat)=>l=ppN k (2^n.toNat) (i-1)/\1<=i/\i<=k.length) (λ((i,l):Nat×List Rat)=>k.length-i) (λ((i,l):Nat×List Rat)=> .cond (.h 5 2 (.i .sub) (.cond (.nil) (.h 7 4 (.i (.n (2^n.toNat) 2)) (.loop [.s 11 (.nat .i64) (.n 4),.g 5 90001 .rat (.n 26) 64] (λ((j,o):Nat×List Rat)=>o=l++stG (k.getD (i-1) 0) ((k.getD i 0-k.getD (i-1) 0)/(((2^n.toNat:Nat):Int):Rat)) (j-1)/\1<=j/\j<=2^n.toNat+1) (λ((j,o):Nat×List Rat)=>2^n.toNat+1-j) (λ((j,o):Nat×List Rat)=> .h 9 2 (.i (.n (2^n.toNat) 2)) (.cond (.h 11 7 (.mk (.im .rat (.n 26))) (.nil)) (.nil))))))) (.pre 12 (.frz 90002 true [5]) (.nil)))),kcast (by kernel_rfl) (I (?_:0<k.length) (I (by(try simp only[q6M,q6N,q6Q])<;>omega:1=[k.getD 0 0].length) (I (⟨rfl,by omega,by omega⟩:[k.getD 0 0]=ppN k (2^n.toNat) (1-1)/\1<=1/\1<=k.length) (λ(i:Nat)(l:List Rat)(hb1:HB [.s 6 (.nat .i64) (.n 1048576),.g 5 90002 .rat (.n 26) 64] (i,l))(hI:l=ppN k (2^n.toNat) (i-1)/\1<=i/\i<=k.length)=>have hv11:=(show i<=1048576 from hb1.1);have hv12:=(show l.length<=64 from hb1.2.1);have hI1:=hI.2.1;have hI2:=hI.2.2;have hll:=(q5B hkl hm2 hI.1 hI.2.2);Sp (i<k.length) (λh2=>I (?_:1<=i) (I (?_:i-1<k.length) (I (?_:i<k.length) (Sp (j5 (k.getD (i-1) 0) (k.getD i 0)=0) (λh3=>I (show(i+1)<=1048576 by omega:Bnd (.nat .i64) (.n 1048576) (i+1)) (I (?_:l.length=l.length) (q6q (⟨pp_a hI.1 hI.2.1 h3,by omega,by omega⟩:l=ppN k (2^n.toNat) ((i+1) -1)/\1<=(i+1)/\(i+1)<=k.length) (?_:k.length-(i+1)<k.length-i)))) (λh4=>I (LE hp1 hp2:qK .shl .i64 1 n ((2^n.toNat:Nat):Int)) (I (Hw hp1 hp2:2^n.toNat<=2) (I (?_:l.length=l.length) (I (⟨(List.append_nil _).symm,by omega,by omega⟩:l=l++stG (k.getD (i-1) 0) ((k.getD i 0-k.getD (i-1) 0)/(((2^n.toNat:Nat):Int):Rat)) (1-1)/\1<=1/\1<=2^n.toNat+1) (λ(j:Nat)(o:List Rat)(hb5:HB [.s 11 (.nat .i64) (.n 4),.g 5 90001 .rat (.n 26) 64] (j,o))(hJ:o=l++stG (k.getD (i-1) 0) ((k.getD i 0-k.getD (i-1) 0)/(((2^n.toNat:Nat):Int):Rat)) (j-1)/\1<=j/\j<=2^n.toNat+1)=>have hv8:=(show j<=4 from hb5.1);have hv9:=(show o.length<=64 from hb5.2.1);have hJ1:=hJ.2.1;have hJ2:=hJ.2.2;have hol:=(show o.length=l.length+(j-1) by rw[hJ.1,q6M,Im]);I (LE hp1 hp2:qK .shl .i64 1 n ((2^n.toNat:Nat):Int)) (I (Hw hp1 hp2:2^n.toNat<=2) (Sp (j<=2^n.toNat) (λh6=>I (?_:o.length=o.length) (I (show(j+1)<=4 by omega:Bnd (.nat .i64) (.n 4) (j+1)) (I (by(try simp only[q6M,q6N,q6Q])<;>omega:o.length+[(k.getD (i-1) 0)+((((j:Int):Int):Rat)*(((k.getD i 0) -(k.getD (i-1) 0))/((((2^n.toNat:Nat):Int):Int):Rat)))].length=(o++[(k.getD (i-1) 0)+((((j:Int):Int):Rat)*(((k.getD i 0) -(k.getD (i-1) 0))/((((2^n.toNat:Nat):Int):Int):Rat)))]).length) (I (by(try simp only[q6M,q6N,q6Q])<;>omega:o.length+[(k.getD (i-1) 0)+((((j:Int):Int):Rat)*(((k.getD i 0) -(k.getD (i-1) 0))/((((2^n.toNat:Nat):Int):Int):Rat)))].length<=64) (q6q (⟨st_s hJ.1 hJ.2.1,by omega,by omega⟩:o++[(k.getD (i-1) 0)+((((j:Int):Int):Rat)*(((k.getD i 0) -(k.getD (i-1) 0))/((((2^n.toNat:Nat):Int):Int):Rat)))]=l++stG (k.getD (i-1) 0) ((k.getD i 0-k.getD (i-1) 0)/(((2^n.toNat:Nat):Int):Rat)) ((j+1) -1)/\1<=(j+1)/\(j+1)<=2^n.toNat+1) (?_:2^n.toNat+1-(j+1)<2^n.toNat+1-j)))))) (λh7=>I (show(i+1)<=1048576 by omega:Bnd (.nat .i64) (.n 1048576) (i+1)) (I (?_:o.length=o.length) (q6q (⟨pp_b hI.1 hI.2.1 h4 hJ.1 (by omega),by omega,by omega⟩:o=ppN k (2^n.toNat) ((i+1) -1)/\1<=(i+1)/\(i+1)<=k.length) (?_:k.length-(i+1)<k.length-i))))))))))))))) (λh10=>I (?_:l.length=l.length) ((q1Y hI.1 hI.2.2 (by omega):l=qW k (2^n.toNat))))))))⟩<;>omega)
abbrev Pr:Ctr Tryz.prog:=FI.c q20
abbrev q2y:FI:=⟨29,[(.sl .rat),(.int .i64)],[(.s 16 (.n 6)),(.n 9223372036854775808)],λz=>(λ(k:List Rat)(n:Int)=>[PaL k (2^n.toNat),0<=n,n<=1,1<=k.length]) z.1 z.2,λb z=>(λ(k:List Rat)(n:Int)=> .c (.one (.dt (.sl .rat) (.s 64 (.n 26)) (qW k (2^n.toNat))))) z.1 z.2⟩
theorem q2z:q2y.OK Tryz.prog:=qB hmix 64 Tryz.func29 rfl rfl (by decide) [(20,.c Dk),(22,.c EL),(45,.c Mx),(58,.c OY),(59,.c Qk)] (λ(k:List Rat)(n:Int) b hx hp=>qa (hp _ q6W:PaL k (2^n.toNat)).bnd rfl) (λ(k:List Rat)(n:Int) hx hp=>by
 have hl0:k.length<=16:=hx.1.1;have hx1:Int.natAbs n<=9223372036854775808:=hx.2;have hp0:PaL k (2^n.toNat):=hp _ (q6W);have hp1:0<=n:=hp _ (q6V _ (q6W));have hp2:n<=1:=hp _ (q6V _ (q6V _ (q6W)));have hp3:1<=k.length:=hp _ (q6V _ (q6V _ (q6V _ (q6W))));have hkl:k.length<=16:=hx.1.1;have hm2:=Hw hp1 hp2;have hm1:1<=2^n.toNat:=Nat.one_le_two_pow;have hdl:=q4z hkl hp3
 refine⟨.h 2 1 (.i (.n n.toNat 1)) (.h 2 2 (.i (.n (2^n.toNat) 2)) (.loop [.s 8 (.nat .i64) (.n 1048576),.g 7 90002 .rat (.n 26) 64] (λ((i,l):Nat×List Rat)=>l=prN (dst k) (2^n.toNat) i/\i+1<=(dst k).length) (λ((i,l):Nat×List Rat)=>(dst k).length-i) (λ((i,l):Nat×List Rat)=> .cond (.loop [.s 9 (.nat .i64) (.n 4),.g 7 90001 .rat (.n 26) 64] (λ((j,o):Nat×List Rat)=>o=l++rrG ((dst k).getD i 0) ((dst k).getD (i+1) 0-(dst k).getD i 0) (2^n.toNat) j/\j<=2^n.toNat) (λ((j,o):Nat×List Rat)=>2^n.toNat-j) (λ((j,o):Nat×List Rat)=> .cond (.h 11 18 (.mk (.im .rat (.n 26))) (.nil)) (.nil))) (.h 12 4 (.i .sub) (.h 12 7 (.mk (.im .rat (.n 26))) (.pre 1012009 (.frz 63 true [63]) (.nil))))))),kcast (by kernel_rfl) (I (XC hp1 hp2:IntKind.wrap .u64 n=((n.toNat:Nat):Int)) (I (?_:n.toNat<=1) (I (TT hp1 hp2:qK .shl .i64 1 ((n.toNat:Nat):Int) ((2^n.toNat:Nat):Int)) (I (Hw hp1 hp2:2^n.toNat<=2) (I (rfl:0=([]:List Rat).length) (I (⟨rfl,by omega⟩:([]:List Rat)=prN (dst k) (2^n.toNat) 0/\0+1<=(dst k).length) (λ(i:Nat)(l:List Rat)(hb1:HB [.s 8 (.nat .i64) (.n 1048576),.g 7 90002 .rat (.n 26) 64] (i,l))(hI:l=prN (dst k) (2^n.toNat) i/\i+1<=(dst k).length)=>have hv9:=(show i<=1048576 from hb1.1);have hv10:=(show l.length<=64 from hb1.2.1);have hI2:=hI.2;have hll:=(q22 hdl hm2 hI.1 hI.2);Sp (i+1<(dst k).length) (λh2=>I (?_:l.length=l.length) (I (⟨(List.append_nil _).symm,q7G _⟩:l=l++rrG ((dst k).getD i 0) ((dst k).getD (i+1) 0-(dst k).getD i 0) (2^n.toNat) 0/\0<=2^n.toNat) (λ(j:Nat)(o:List Rat)(hb3:HB [.s 9 (.nat .i64) (.n 4),.g 7 90001 .rat (.n 26) 64] (j,o))(hJ:o=l++rrG ((dst k).getD i 0) ((dst k).getD (i+1) 0-(dst k).getD i 0) (2^n.toNat) j/\j<=2^n.toNat)=>have hv6:=(show j<=4 from hb3.1);have hv7:=(show o.length<=64 from hb3.2.1);have hJ2:=hJ.2;have hol:=(show o.length=l.length+j by rw[hJ.1,q6M,Ie]);Sp (j<2^n.toNat) (λh4=>I (?_:i<(dst k).length) (I (?_:i+1<(dst k).length) (I (?_:i<(dst k).length) (I (?_:o.length=o.length) (I (show(j+1)<=4 by omega:Bnd (.nat .i64) (.n 4) (j+1)) (I (by(try simp only[q6M,q6N,q6Q])<;>omega:o.length+[((dst k).getD i 0)+(((((j:Int):Int):Rat)/((((2^n.toNat:Nat):Int):Int):Rat))*(((dst k).getD (i+1) 0) -((dst k).getD i 0)))].length=(o++[((dst k).getD i 0)+(((((j:Int):Int):Rat)/((((2^n.toNat:Nat):Int):Int):Rat))*(((dst k).getD (i+1) 0) -((dst k).getD i 0)))]).length) (I (by(try simp only[q6M,q6N,q6Q])<;>omega:o.length+[((dst k).getD i 0)+(((((j:Int):Int):Rat)/((((2^n.toNat:Nat):Int):Int):Rat))*(((dst k).getD (i+1) 0) -((dst k).getD i 0)))].length<=64) (q6q (⟨rr_s hJ.1,by omega⟩:o++[((dst k).getD i 0)+(((((j:Int):Int):Rat)/((((2^n.toNat:Nat):Int):Int):Rat))*(((dst k).getD (i+1) 0) -((dst k).getD i 0)))]=l++rrG ((dst k).getD i 0) ((dst k).getD (i+1) 0-(dst k).getD i 0) (2^n.toNat) (j+1)/\(j+1)<=2^n.toNat) (?_:2^n.toNat-(j+1)<2^n.toNat-j))))))))) (λh5=>I (show(i+1)<=1048576 by omega:Bnd (.nat .i64) (.n 1048576) (i+1)) (I (?_:o.length=o.length) (q6q (⟨pr_s hI.1 hJ.1 (by omega),by omega⟩:o=prN (dst k) (2^n.toNat) (i+1)/\(i+1)+1<=(dst k).length) (?_:(dst k).length-(i+1)<(dst k).length-i))))))) (λh8=>I (?_:1<=(dst k).length) (I (?_:((dst k).length) -1<(dst k).length) (I (?_:l.length=l.length) (I (by(try simp only[q6M,q6N,q6Q])<;>omega:l.length+[(dst k).getD (((dst k).length) -1) 0].length=(l++[(dst k).getD (((dst k).length) -1) 0]).length) ((q21 hp0 hI.1 (by omega):l++[(dst k).getD (((dst k).length) -1) 0]=qW k (2^n.toNat))))))))))))))⟩<;>omega)
abbrev q2x:Ctr Tryz.prog:=FI.c q2z
section
def sU(g:Int)(s:j4):Int:=1+qd s g
def sV(g:Int)(s:j4):Int:=1+qd (qb s) g
def sKU(g inner:Int)(s:j4):List Rat:=js (1+qd s g) inner (qb (qb s))
def sD2(g inner:Int)(s:j4):j4:=jY (1+qd s g) inner (qb (qb s))
def sKV(g inner:Int)(s:j4):List Rat:=js (1+qd (qb s) g) inner (sD2 g inner s)
def sD3(g inner:Int)(s:j4):j4:=jY (1+qd (qb s) g) inner (sD2 g inner s)
def sfU(g inner:Int)(s:j4):Nat:=((sKU g inner s).length-(1+qd s g) -1).toNat
def sfV(g inner:Int)(s:j4):Nat:=((sKV g inner s).length-(1+qd (qb s) g) -1).toNat
def sfW(g inner:Int)(s:j4):Bool:=decide (qd (sD3 g inner s) 3=2)
def twP(w:Bool)(i j:Nat)(p:ju):ju:=
 if w=true then p else(((((2*i:Nat):Int):Rat)+p.1.1*(((1:Int):Rat)/((8:Int):Rat)),(((2*j:Nat):Int):Rat)+p.1.2.1*(((1:Int):Rat)/((8:Int):Rat)),p.1.2.2*(((1:Int):Rat)/((4:Int):Rat))),p.2)
def rwN(w:Bool)(i:Nat)(u:j4):Nat->List ju×j4
 |0=>([],u)
 |n+1=>((rwN w i u n).1++[twP w i n (jS (rwN w i u n).2 false)],AS (rwN w i u n).2)
def sfN(g inner:Int)(s:j4):Nat->List (List ju)×j4
 |0=>([],qb (sD3 g inner s))
 |n+1=>((sfN g inner s n).1++[(rwN (sfW g inner s) n (sfN g inner s n).2 (sfV g inner s)).1],(rwN (sfW g inner s) n (sfN g inner s n).2 (sfV g inner s)).2)
def Al(g inner:Int)(s:j4):qP:=(sU g s,sV g s,sKU g inner s,sKV g inner s,(sfN g inner s (sfU g inner s)).1)
def BE(g inner:Int)(s:j4):j4:=(sfN g inner s (sfU g inner s)).2
abbrev bSd:Bd:= .p (.n 6) (.p (.n 6) (.p (.s 16 (.n 6)) (.p (.s 16 (.n 6)) (.s 16 (.s 16 (jK 16))))))
theorem De(w:Bool)(i:Nat)(u:j4): ∀n,(rwN w i u n).1.length=n
 |0=>rfl
 |n+1=>by simp only[rwN,q6M,De w i u n,q6N,q6Q]
theorem Fp(g inner:Int)(s:j4): ∀n,(sfN g inner s n).1.length=n
 |0=>rfl
 |n+1=>by simp only[sfN,q6M,Fp g inner s n,q6N,q6Q]
theorem TE(g inner:Int)(s:j4):sfU g inner s=(((js (1+qd s g) inner (qb (qb s))).length:Int) -(1+qd s g) -1).toNat:=rfl
theorem q5U(g inner:Int)(s:j4):sfV g inner s=(((js (1+qd (qb s) g) inner (jY (1+qd s g) inner (qb (qb s)))).length:Int) -(1+qd (qb s) g) -1).toNat:=rfl
section
variable {g inner:Int} {s u v:j4} {l:List (List ju)} {r:List ju} {i j:Nat}
theorem q5L(h:(r,v)=rwN (sfW g inner s) i u j)(hw: ¬qd (jY (1+qd (qb s) g) inner (jY (1+qd s g) inner (qb (qb s)))) 3=2):
  (r++[(((((2*i:Nat):Int):Rat)+(jS v false).1.1*(((1:Int):Rat)/((8:Int):Rat)),(((2*j:Nat):Int):Rat)+(jS v false).1.2.1*(((1:Int):Rat)/((8:Int):Rat)),(jS v false).1.2.2*(((1:Int):Rat)/((4:Int):Rat))),(jS v false).2)],AS v)=rwN (sfW g inner s) i u (j+1):=by
 have e:sfW g inner s=false:=decide_eq_false hw;rw[e]at h⊢;rw[rwN,<-h,twP,if_neg (by decide)]
theorem q5M(h:(r,v)=rwN (sfW g inner s) i u j)(hw: ¬ ¬qd (jY (1+qd (qb s) g) inner (jY (1+qd s g) inner (qb (qb s)))) 3=2):
  (r++[jS v false],AS v)=rwN (sfW g inner s) i u (j+1):=by
 have e:sfW g inner s=true:=decide_eq_true (Decidable.of_not_not hw);rw[e]at h⊢;rw[rwN,<-h,twP,if_pos rfl]
theorem q5S(h:(l,u)=sfN g inner s i)(h2:(r,v)=rwN (sfW g inner s) i u j)(hj:j=sfV g inner s):(l++[r],v)=sfN g inner s (i+1):=by
 subst hj;simp only[sfN,<-h,<-h2]
theorem PM(h:(l,u)=sfN g inner s i)(hi:i=sfU g inner s):u=BE g inner s/\(1+qd s g,1+qd (qb s) g,js (1+qd s g) inner (qb (qb s)),js (1+qd (qb s) g) inner (jY (1+qd s g) inner (qb (qb s))),l)=Al g inner s:=by
 subst hi;unfold BE Al sU sV sKU sKV sD2;rw[<-h];exact⟨rfl,rfl⟩
end
theorem q6h{w:Bool}{i j:Nat}{p:ju}(h:Bnd qr (jK 5) p)(hi:i<=20)(hj:j<=20):Bnd qr (jK 16) (twP w i j p):=by
 have h1:=h.pr;have hp:=h1.1;have q8:Bnd .rat (.n 4) (((1:Int):Rat)/((8:Int):Rat)):=qE (zZ (n:=1) (d:=8) (b:=1) (c:=8) (by decide) (by decide)) (by decide);have q4:Bnd .rat (.n 4) (((1:Int):Rat)/((4:Int):Rat)):=qE (zZ (n:=1) (d:=4) (b:=1) (c:=4) (by decide) (by decide)) (by decide);have z: ∀k:Nat,k<=20->Bnd .rat (.n 6) ((((2*k:Nat):Int):Rat)):=λk hk=>qE (Au (v:=((2*k:Nat):Int)) (b:=40) (by omega)) (by decide)
 unfold twP;split
 .exact⟨⟨qE hp.1 (by decide),qE hp.2.1 (by decide),qE hp.2.2 (by decide)⟩,qE h1.2 (by decide)⟩
 .exact⟨⟨qE (AI (z i hi) (vH hp.1 q8)) (by decide),qE (AI (z j hj) (vH hp.2.1 q8)) (by decide),qE (vH hp.2.2 q4) (by decide)⟩,qE h1.2 (by decide)⟩
theorem PL{w:Bool}{i:Nat}{u:j4}(hi:i<=20): ∀n,n<=20-> ∀x∈(rwN w i u n).1,Bnd qr (jK 16) x
 |0,_,x,h=>by cases h
 |n+1,hn,x,h=>by
  simp only[rwN]at h;rcases q6T.1 h with h|h
  .exact PL hi n (by omega) x h
  .rw[q70.1 h];exact q6h (I9 _ _) hi (by omega)
theorem q5N{w:Bool}{i:Nat}{u:j4}{b:Bd}(h:Bnd vm (.p b.l (.n (max b.r.nb b.l.len))) u)(n:Nat):Bnd vm (.p b.l (.n (max b.r.nb b.l.len))) (rwN w i u n).2:=by
 induction n with
 |zero=>exact h
 |succ n ih=>
  have e:(rwN w i u (n+1)).2=AS (rwN w i u n).2:=by simp only[rwN]
  rw[e];generalize(rwN w i u n).2=y at*;exact RJ ih
theorem q5R{g inner:Int}{s:j4}{b:Bd}(h:Bnd vm (.p b.l (.n (max b.r.nb b.l.len))) (qb (sD3 g inner s)))(n:Nat):Bnd vm (.p b.l (.n (max b.r.nb b.l.len))) (sfN g inner s n).2:=by
 induction n with
 |zero=>
  have e:(sfN g inner s 0).2=qb (sD3 g inner s):=by simp only[sfN]
  rw[e];exact h
 |succ n ih=>
  have e:(sfN g inner s (n+1)).2=(rwN (sfW g inner s) n (sfN g inner s n).2 (sfV g inner s)).2:=by simp only[sfN]
  rw[e];generalize(sfN g inner s n).2=y at*;exact q5N ih _
theorem M2(d:Int): ∀(n:Nat)(x:KnT),(knN d n x).1.length=x.1.length+n
 |0,x=>rfl
 |n+1,x=>by rw[knN,M2 d n,M3];omega
theorem GY{d inner:Int}(s:j4):(js d inner s).length=(d+1).toNat+(qd (qb s) (inner+1)).toNat+(d+1).toNat:=by
 unfold js knR;rw[q6M,List.length_replicate,M2];unfold kn0;rw[List.length_replicate]
section
variable {g inner:Int} (s:j4) (h1:1<=g) (h5:g<=5) (h0:0<=inner) (h4:inner<=4)
include h1 h5 h0 h4
theorem Nr:Bnd (.sl .rat) (.s 16 (.n 6)) (sKU g inner s):=FY _ (by have:=jT s (m:=g) (by omega);omega) h0 h4
theorem Ns:Bnd (.sl .rat) (.s 16 (.n 6)) (sKV g inner s):=FY _ (by have:=jT (qb s) (m:=g) (by omega);omega) h0 h4
theorem q5T:1<=sfU g inner s/\sfU g inner s<=16:=by
 have a:=jT s (m:=g) (by omega);have b:=(Nr s h1 h5 h0 h4).1;have c:=GY (d:=1+qd s g) (inner:=inner) (qb (qb s));rw[TE];unfold sKU at b;omega
theorem q5V:2<=sfV g inner s/\sfV g inner s<=16:=by
 have a:=jT (qb s) (m:=g) (by omega);have b:=(Ns s h1 h5 h0 h4).1;have c:=GY (d:=1+qd (qb s) g) (inner:=inner) (sD2 g inner s);unfold sfV sKV;unfold sKV at b;omega
theorem Xs:Bnd qR bSd (Al g inner s):=by
 have a:=jT s (m:=g) (by omega);have a2:=jT (qb s) (m:=g) (by omega);have hu:=q5T s h1 h5 h0 h4;have hv:=q5V s h1 h5 h0 h4;refine⟨show Int.natAbs (1+qd s g)<=6 by omega,show Int.natAbs (1+qd (qb s) g)<=6 by omega,Nr s h1 h5 h0 h4,Ns s h1 h5 h0 h4,?_,?_⟩
 .show(sfN g inner s (sfU g inner s)).1.length<=16
  rw[Fp];exact hu.2
 .have key: ∀n,n<=16-> ∀x∈(sfN g inner s n).1,Bnd (.sl qr) (.s 16 (jK 16)) x:=by
   intro n
   induction n with
   |zero=>intro _ x hx;cases hx
   |succ n ih=>
    intro hn x hx;simp only[sfN]at hx;rcases q6T.1 hx with hx|hx
    .exact ih (by omega) x hx
    .rw[q70.1 hx]
     exact⟨by rw[De];exact hv.2,λy hy=>PL (by omega) _ (by omega) y hy⟩
  exact key _ hu.2
omit h1 h5 h0 h4 in
theorem IT(s:j4)(f:Bool):0<(jS s f).2:=by
 have h:=jT (zn s) (m:=3) (by omega);show(0:Rat)<((1+Int.tmod (qd (zn s) 3) 3:Int):Rat);rw[Int.tmod_eq_emod_of_nonneg h.1];have:(0:Int)<1+qd (zn s) 3%3:=by omega
 exact_mod_cast this
omit h1 h5 h0 h4 in
theorem X6(n:Nat): ∀x∈(sfN g inner s n).1,x.length=sfV g inner s/\ ∀p∈x,0<p.2:=by
 have hr: ∀(w:Bool)(i:Nat)(u:j4)(m:Nat),∀p∈(rwN w i u m).1,0<p.2:=by
  intro w i u m
  induction m with
  |zero=>intro p hp;cases hp
  |succ m ih=>
   intro p hp;simp only[rwN]at hp;rcases q6T.1 hp with hp|hp
   .exact ih p hp
   .rw[q70.1 hp]
    unfold twP;split
    .exact IT _ _
    .exact IT (rwN w i u m).2 false
 induction n with
 |zero=>intro x hx;cases hx
 |succ n ih=>
  intro x hx;simp only[sfN]at hx;rcases q6T.1 hx with hx|hx
  .exact ih x hx
  .rw[q70.1 hx]
   exact⟨De _ _ _ _,hr _ _ _ _⟩
end
theorem Xr{g inner:Int}{s:j4}{b:Bd}(h:Bnd vm b s):Bnd vm (.p b.l (.n (max b.r.nb b.l.len))) (BE g inner s):=
 q5R (z5 (b:=b) (GI (FX (GI (FX (GI (BP (BP (b:=b) h)))))))) _
end
section
structure SgO (s:qP):Prop where
 b:Bnd qR bSfl s
 p:PosS s
 du:KnU s.1 s.2.2.1
 dv:KnU s.2.1 s.2.2.2.1
 nu:s.2.2.2.2.length+s.1.toNat+1=s.2.2.1.length
 nv: ∀i,i<s.2.2.2.2.length->(j3 s i).length+s.2.1.toNat+1=s.2.2.2.1.length
theorem Ow{c:ze}{t:Rat}(hk:KnU c.1 c.2.1)(hp: ∀p∈c.2.2,Bnd (.pr jj .rat) (.p (bV3 262144) (.n 262144)) p)(hl:c.2.2.length+c.1.toNat+1=c.2.1.length)(ht:PaO c.2.1 t):EvC c t:=
 ⟨⟨by have:=hk.b.1;omega,λv hv=>qE (hk.b.2 v hv) (by decide)⟩,hp,qE ht.q.bnd (by decide),by have:=hk.dr;omega,by have:=hk.dr;omega,hk.l.1,hl,.inr (MY hk.ip ht.o).1⟩
theorem Pq{p:ju}{m k:Nat}(h:Bnd qr (jK m) p)(hm:m<=k):Bnd (.pr jj .rat) (.p (bV3 k) (.n k)) p:=⟨Nx h.1 hm,qE h.2 hm⟩
theorem q4R{c:ze}{t:Rat}(hk: ∀v∈c.2.1,Bnd .rat (.n 6) v)(hp: ∀p∈c.2.2,Bnd qr (jK 12) p)(ht:Bnd .rat (.n 8) t)(h6:c.1<=6):Bnd qr (jK 200000) (jw (homV c t)):=by
 have hb: ∀v∈jc c.2.1 c.1 t,Bnd .rat (.n 13547) v:=λv hv=>by
  unfold jc at hv;split at hv
  .cases hv
  .obtain⟨j,_,rfl⟩:=List.mem_map.1 hv
   exact qE (Ja (m:=26) (λv hv=>qE (hk v hv) (by decide)) (qE ht (by decide)) _ _ _) (q7k (IA 26 (show c.1.toNat<=6 by omega)) (by decide))
 have hl:=E9 c.2.1 c.1 t;have h:=GR (λp h=>hp p h) hb (qU c.2.1 c.1 t-c.1.toNat) (jc c.2.1 c.1 t).length
 have h:Bnd jB (bF4 95004) (homV c t):=Cr h (by
  have:=q7x (13547+2*12+1) (show(jc c.2.1 c.1 t).length<=7 by omega)
  omega)
 have d:=ET h;have e:2*(bF4 95004).mx+2=190010:=by decide
 rw[e]at d;exact⟨Nx d.1 (by decide),qE d.2 (by decide)⟩
section
variable {s:qP} {t:Rat} {vs:List Rat} (h:SgO s)
include h
theorem SgO.r0:0<s.2.2.2.2.length:=by have:=h.nu;have:=h.du.l;omega
theorem SgO.rc: ∀i,i<s.2.2.2.2.length->(j3 s i).length=(j3 s 0).length:=λi hi=>by have:=h.nv i hi;have:=h.nv 0 h.r0;omega
theorem SgO.rw'{i:Nat}(hi:i<s.2.2.2.2.length):vE s (s.2.2.2.2.getD i []):=by
 have a:(s.2.2.2.2.getD i []).length+s.2.1.toNat+1=s.2.2.2.1.length:=h.nv i hi;have:=h.dv.dr;unfold vE;omega
theorem SgO.len:((s.2.2.2.2.length:Nat):Int)=(s.2.2.1.length:Int) -s.1-1:=by
 have:=h.nu;have:=h.du.dr;omega
theorem SgO.chk:chkS s=0:=(MJ (by rw[h.du.chk];simp) (by rw[h.dv.chk];simp) (by rw[<-h.len];simp) (DQ.2 λj hj=>h.rw' hj)).symm
theorem SgO.rcs:rcS s=true:=Ib.2 ⟨h.len,DQ.2 λj hj=>h.rw' hj⟩
theorem SgO.k:s.2.2.1.length+s.2.2.2.1.length<=64:=by
 have h1:=h.b.2.2.1.1;have h2:=h.b.2.2.2.1.1;omega
theorem SgO.m:SmS s:=⟨q7k h.b.2.2.2.2.1 (by decide),λi=>q7k (AR h.b i).1 (by decide)⟩
omit h in
theorem SgO.sl(_:SgO s):(qF s).2.2.2.2.length=(j3 s 0).length:=BS s _
theorem SgO.evr(ht:PaO s.2.2.1 t){i:Nat}(hi:i<(qF s).2.2.2.2.length):EvC (rowC (qF s) i) t:=by
 have e:(j3 (qF s) i).length=s.2.2.2.2.length:=by
  show((swN s (j3 s 0).length).getD i []).length=_;rw[In s _ i (by rw[h.sl]at hi;exact hi),Dv]
 exact Ow (c:=rowC (qF s) i) h.du (λp hp=>Pq ((AR (Fr h.b) i).2 p hp) (by decide)) (by show(j3 (qF s) i).length+s.1.toNat+1=_;rw[e];exact h.nu) ht
theorem SgO.iso(ht:PaO s.2.2.1 t):IsO (qF s) t:=by
 have hd:=h.du.dr;have hl:=h.du.l;refine⟨Fr h.b,qE ht.q.bnd (by decide),?_,?_,λi hi=>h.evr ht hi,λi hi=>?_⟩
 .show 0<=s.1;omega
 .show s.1.toNat+2<=s.2.2.1.length;omega
 .exact q4R (c:=rowC (qF s) i) h.du.b.2 (AR (Fr h.b) i).2 ht.q.bnd (by show s.1<=6;omega)
theorem SgO.isp(ht:PaO s.2.2.1 t):IsP s t:=⟨h.b,h.r0,h.rc,h.du.chk,h.dv.chk,h.rcs,h.du.ip,ht.o,h.iso ht⟩
omit h in
theorem SgO.iv(_:SgO s)(ht:PaO s.2.2.1 t):(ja (qF s) t).1=(s.2.1,s.2.2.2.1,isoP (qF s) t (qF s).2.2.2.2.length):=by
 unfold ja;rw[if_neg (show¬jv (qF s).2.2.2.1 t≠0 from λg=>g (Jg (show¬ivO s.2.2.1 t from ht.o)))];rfl
theorem SgO.rwp(ht:PaO s.2.2.1 t)(hv: ∀v∈vs,PaO s.2.2.2.1 v)(hl:vs.length<=64):RwP s t vs:=by
 have e:=h.iv ht;refine⟨h.isp ht,λi hi=>?_,?_,?_,hl⟩
 .rw[e]
  refine Ow (c:=(s.2.1,s.2.2.2.1,_)) h.dv (λp hp=>Pq (GV (h.iso ht) _ (q7j _) p hp) (by decide)) ?_ (hv _ (by rw[vq hi];exact List.getElem_mem _));show(isoP (qF s) t (qF s).2.2.2.2.length).length+s.2.1.toNat+1=s.2.2.2.1.length;rw[Ca,h.sl];exact h.nv 0 h.r0
 .rw[e];exact h.dv.ip
 .rw[e];exact h.dv.chk
omit h in
theorem SgO.sev(_:SgO s)(ht:PaO s.2.2.1 t)(v:Rat):(sevV s t v).1=evV (ja (qF s) t).1 v:=by
 unfold sevV;rw[<-q14 (s:=s) ht.o,if_neg (by simp)]
end
def szE(n:Int):Int:=if n<0\/6<n then 2 else 0
def grV(s:qP)(m:Nat):List (List V3):=grG s (qW s.2.2.1 m) (qW s.2.2.2.1 m) (qW s.2.2.1 m).length
def A2(s:qP)(n:Int):List (List V3):=if n<0\/6<n then[]else grV s (2^n.toNat)
def InR(n:Int):Prop:=n<0\/6<n\/(0<=n/\n<=1)
abbrev bGr:Bd:= .s 64 (.s 64 (bV3 67108868))
theorem Jy(n:Int):(szE n).natAbs<=8:=by unfold szE;split<;>decide
theorem Fs{n:Int}(h:n<0\/6<n):2=szE n:=(if_pos h).symm
theorem TG{n:Int}(h: ¬(n<0\/6<n)):0=szE n:=(if_neg h).symm
theorem Jz{n:Int}(hr:InR n)(h: ¬szE n≠0):0<=n/\n<=1:=by
 unfold szE at h;split at h
 .simp at h
 .unfold InR at hr;omega
theorem q6e{n:Int}(h: ¬szE n≠0): ¬(n<0\/6<n):=by
 unfold szE at h;split at h
 .simp at h
 .assumption
theorem gr_1{s:qP}{n:Int}(h:szE n≠0):[]=A2 s n:=by
 unfold A2 szE at*;split at h
 .rename_i g;rw[if_pos g]
 .exact absurd rfl h
theorem gr_2{s:qP}{n:Int}{i:Nat}{l:List (List V3)}(h: ¬szE n≠0)(hl:l=grG s (qW s.2.2.1 (2^n.toNat)) (qW s.2.2.2.1 (2^n.toNat)) i)(hi:i=(qW s.2.2.1 (2^n.toNat)).length):l=A2 s n/\0=szE n:=by
 refine⟨?_,(Decidable.of_not_not h).symm⟩;rw[A2,if_neg (q6e h),hl,hi];rfl
section
variable {s:qP} {n:Int} (h:SgO s)
include h
theorem SgO.pu(h0:0<=n)(h1:n<=1):PaL s.2.2.1 (2^n.toNat):=h.du.pa (sh_c h0 h1)
theorem SgO.pv(h0:0<=n)(h1:n<=1):PaL s.2.2.2.1 (2^n.toNat):=h.dv.pa (sh_c h0 h1)
theorem SgO.rp(h0:0<=n)(h1:n<=1){i:Nat}(hi:i<(qW s.2.2.1 (2^n.toNat)).length):RwP s ((qW s.2.2.1 (2^n.toNat)).getD i 0) (qW s.2.2.2.1 (2^n.toNat)):=
 h.rwp ((h.pu h0 h1).m _ (by rw[vq hi];exact List.getElem_mem _)) (h.pv h0 h1).m (by have:=(h.pv h0 h1).l;omega)
theorem SgO.pa(h0:0<=n)(h1:n<=1){i:Nat}(hi:i<(qW s.2.2.1 (2^n.toNat)).length):PaO s.2.2.1 ((qW s.2.2.1 (2^n.toNat)).getD i 0):=(h.pu h0 h1).m _ (by rw[vq hi];exact List.getElem_mem _)
theorem SgO.gb(hr:InR n):Bnd (.sl (.sl jj)) bGr (A2 s n):=by
 unfold A2;split
 .exact⟨q7G _,λx hx=>by cases hx⟩
 .rename_i g
  have h0:0<=n:=by omega
  have h1:n<=1:=by unfold InR at hr;omega
  have key: ∀i,i<=(qW s.2.2.1 (2^n.toNat)).length-> ∀x∈grG s (qW s.2.2.1 (2^n.toNat)) (qW s.2.2.2.1 (2^n.toNat)) i,Bnd (.sl jj) bRw x:=by
   intro i
   induction i with
   |zero=>intro _ x hx;cases hx
   |succ i ih=>
    intro hi x hx;simp only[grG,q6T,q70]at hx;rcases hx with hx|hx
    .exact ih (by omega) x hx
    .rw[hx];exact TB (h.rp h0 h1 (by omega))
  refine⟨?_,key _ (q7j _)⟩;show(grG _ _ _ _).length<=64;rw[F1];have:=(h.pu h0 h1).l;omega
end
theorem rw_s{s:qP}{u:Rat}{vs:List Rat}{j:Nat}{r:List V3}{x:V3}(h:r=rwG s u vs j)(e:x=evV (ja (qF s) u).1 (vs.getD j 0)):r++[x]=rwG s u vs (j+1):=by rw[h,e];rfl
theorem gr_s{s:qP}{us vs:List Rat}{i j:Nat}{l:List (List V3)}{r:List V3}(h:l=grG s us vs i)(hr:r=rwG s (us.getD i 0) vs j)(hj:j=vs.length):l++[r]=grG s us vs (i+1):=by rw[h,hr,hj];rfl
theorem tw_c{x:Rat}(h:Bnd .rat (.n 5) x){k:Nat}(hk:k<=6):Bnd .rat (.n 12) ((((2*k:Nat):Int):Rat)+x*(((1:Int):Rat)/((8:Int):Rat))):=by
 have hb:=h.rat;have b1:x.num.natAbs<32:=hb.1;have b2:x.den<=32:=hb.2
 have e:(((2*k:Nat):Int):Rat)+x*(((1:Int):Rat)/((8:Int):Rat))=((16*((k:Int)*(x.den:Int))+x.num:Int):Rat)/((8*(x.den:Int):Int):Rat):=by
  have hd:((x.den:Int):Rat)≠0:=λe=>x.den_nz (by have:=Rat.intCast_inj.1 (e.trans (show(0:Rat)=((0:Int):Rat)from rfl));omega)
  have hx:x*((x.den:Int):Rat)=((x.num:Int):Rat):=by
   have hh:(x.num:Rat)/((x.den:Int):Rat)=x:=by rw[<-Rat.divInt_eq_div];exact Rat.num_divInt_den x
   have:=EV (x:=(x.num:Rat)) hd;rw[hh]at this;exact this
  have c8:((8:Int):Rat)=8:=rfl;have c0:((1:Int):Rat)=1:=rfl;have c2':((2:Int):Rat)=2:=rfl;have c16:((16:Int):Rat)=16:=rfl;have h8:((8*(x.den:Int):Int):Rat)≠0:=by rw[Rat.intCast_mul,c8];intro z;rcases Rat.mul_eq_zero.1 z with z|z;exact absurd z (by decide);exact hd z
  have q:=EV (x:=((16*((k:Int)*(x.den:Int))+x.num:Int):Rat)) h8;generalize((16*((k:Int)*(x.den:Int))+x.num:Int):Rat)/((8*(x.den:Int):Int):Rat)=y at*;have c2:(((2*k:Nat):Int):Rat)=2*((k:Int):Rat):=by rw[show((2*k:Nat):Int)=2*(k:Int) by omega,Rat.intCast_mul,c2']
  rw[Rat.intCast_add,Rat.intCast_mul,Rat.intCast_mul,Rat.intCast_mul,c8,c16]at q;rw[c2,c8,c0];generalize((x.den:Int):Rat)=D at*;generalize((k:Int):Rat)=K at*;generalize((x.num:Int):Rat)=N at*;have:(2*K+x*(1/8) -y)*D=0:=by grind
  rcases Rat.mul_eq_zero.1 this with z|z
  .grind
  .exact absurd z hd
 rw[e];have m:(k:Int)*(x.den:Int)=((k*x.den:Nat):Int):=by norm_cast
 have m2:k*x.den<=6*32:=q7v hk b2;exact qE (zZ (b:=3104) (c:=256) (by rw[m];omega) (by omega)) (by decide)
theorem q6i{w:Bool}{i j:Nat}{p:ju}(h:Bnd qr (jK 5) p)(hi:i<=6)(hj:j<=6):Bnd qr (jK 12) (twP w i j p):=by
 have h1:=h.pr;have hp:=h1.1;have q4:Bnd .rat (.n 4) (((1:Int):Rat)/((4:Int):Rat)):=qE (zZ (n:=1) (d:=4) (b:=1) (c:=4) (by decide) (by decide)) (by decide);unfold twP;split
 .exact⟨⟨qE hp.1 (by decide),qE hp.2.1 (by decide),qE hp.2.2 (by decide)⟩,qE h1.2 (by decide)⟩
 .exact⟨⟨tw_c hp.1 hi,tw_c hp.2.1 hj,qE (vH hp.2.2 q4) (by decide)⟩,qE h1.2 (by decide)⟩
theorem TA{w:Bool}{i:Nat}{u:j4}(hi:i<=6): ∀n,n<=6-> ∀x∈(rwN w i u n).1,Bnd qr (jK 12) x
 |0,_,x,h=>by cases h
 |n+1,hn,x,h=>by
  simp only[rwN]at h;rcases q6T.1 h with h|h
  .exact TA hi n (by omega) x h
  .rw[q70.1 h];exact q6i (I9 _ _) hi (by omega)
theorem Mr(s:j4):SgO (Al 2 1 s):=by
 have a:=jT s (m:=2) (by omega);have a2:=jT (qb s) (m:=2) (by omega);have du:KnU (1+qd s 2) (sKU 2 1 s):=Kq _ (by omega) (by omega) (by decide) (by decide);have dv:KnU (1+qd (qb s) 2) (sKV 2 1 s):=Kq _ (by omega) (by omega) (by decide) (by decide);have lu:=du.l;have lv:=dv.l;have hu:sfU 2 1 s=((sKU 2 1 s).length-(1+qd s 2) -1).toNat:=rfl;have hv:sfV 2 1 s=((sKV 2 1 s).length-(1+qd (qb s) 2) -1).toNat:=rfl;have hr: ∀x∈(Al 2 1 s).2.2.2.2,x.length=sfV 2 1 s/\ ∀p∈x,0<p.2:=X6 (g:=2) (inner:=1) s _;have hl:(Al 2 1 s).2.2.2.2.length=sfU 2 1 s:=Fp 2 1 s _
 have key: ∀n,n<=6-> ∀x∈(sfN 2 1 s n).1,Bnd (.sl qr) (.s 16 (jK 12)) x:=by
  intro n
  induction n with
  |zero=>intro _ x hx;cases hx
  |succ n ih=>
   intro hn x hx;simp only[sfN]at hx;rcases q6T.1 hx with hx|hx
   .exact ih (by omega) x hx
   .rw[q70.1 hx]
    exact⟨by rw[De];omega,λy hy=>TA (by omega) _ (by omega) y hy⟩
 refine⟨⟨show Int.natAbs (1+qd s 2)<=6 by omega,show Int.natAbs (1+qd (qb s) 2)<=6 by omega,du.b,dv.b,by rw[hl];omega,key _ (by omega)⟩,λx hx p hp=>(hr x hx).2 p hp,du,dv,?_,λi hi=>?_⟩
 .rw[hl]
  show sfU 2 1 s+(1+qd s 2).toNat+1=(sKU 2 1 s).length;omega
 .show((Al 2 1 s).2.2.2.2.getD i []).length+(1+qd (qb s) 2).toNat+1=(sKV 2 1 s).length
  rw[vq hi,(hr _ (List.getElem_mem _)).1];omega
end
section
section
variable {P:Program} {ty:TypeId}
theorem WZ{t e:TypeId}(h:P.underlying t=some (.slice e))(x:Option Addr)(n c:Nat)(w:World):(Builtin.cap_ #[t] ty #[.slice x n c]).run P w= .ok (.int .i64 c) w:=by
 simp[Builtin.cap_,qI h,goInt]
theorem Wc{t e:TypeId}{x:Operand}(h:P.underlying t=some (.slice e)):OpOk P (.call {callee:= .builtin .cap,args:= #[x],argTypes:= #[t]}) ty [(x,.c (.one (.val (.slice none 0 0))))] [] (qu .i64 0) []:=
 qQ λa w H β hins _ _=>by
  have hx:=(hins _ q6W).1;simp only at hx;refine⟨.int .i64 0,⟨rfl,rfl⟩,λ_ _ _ _=>?_⟩;simp only[execOp,resolve,q7N,q7O,q7M,invoke,builtin,List.map_toArray,q6S,List.map_nil,hx,WZ h];rfl
theorem q1L{t:TypeId}{x z:Operand}{es:Nat}{k2:IntKind}(hs:jA P t=some es):OpOk P (.slice t x none (some z) none) ty [(x,.c (.one (.val (.slice none 0 0)))),(z,qu k2 0)] [] (.c (.one (.val (.slice none 0 0)))) []:=
 qQ λa w H β hins hkin _=>by
  obtain⟨e,ie,h1,h2,rfl⟩:=jJ hs;have hx:=(hins _ q6W).1;have hz:=(hins (z,qu k2 0) (by simp)).1;simp only at hz hx;have hsl:=vY (P:=P) h1 h2 none 0 0 none (some (k2,0)) (l:=0) (r:=0) rfl rfl (q7j _) (q7j _) w;simp only[q7I,q7J]at hsl;refine⟨.slice none 0 0,⟨rfl,rfl⟩,λ_ _ _ _=>?_⟩;simp only[execOp,hx,hz,q7I,q7J,q7N,hsl,q7M,q7O];rfl
theorem q1K{t:TypeId}{x z:Operand}{k n es:Nat}{k2:IntKind}(hs:jA P t=some es):OpOk P (.slice t x none (some z) none) ty [(x,.c (.one (.gs k n))),(z,qu k2 0)] [] (.c (.one (.gs k 0))) []:=
 qQ λa w H β hins hkin _=>by
  obtain⟨e,ie,h1,h2,rfl⟩:=jJ hs;have hx:=hins _ q6W;have hz:=(hins (z,qu k2 0) (by simp)).1;simp only at hz;rcases hx with⟨hβ,rfl,hxe⟩|⟨b,c,hβ,hxe⟩
  .simp only at hxe
   have hsl:=vY (P:=P) h1 h2 none 0 0 none (some (k2,0)) (l:=0) (r:=0) rfl rfl (q7j _) (q7j _) w;simp only[q7I,q7J]at hsl;refine⟨.slice none 0 0,.inl ⟨hβ,rfl,rfl⟩,λ_ _ _ _=>?_⟩;simp only[execOp,hxe,hz,q7I,q7J,q7N,hsl,q7M,q7O];rfl
  .simp only at hxe
   have hsl:=vY (P:=P) h1 h2 (some ⟨b,0,none⟩) n c none (some (k2,0)) (l:=0) (r:=0) rfl rfl (q7G _) (q7G _) w;simp only[q7I,q7J]at hsl;refine⟨.slice (some ⟨b,0,none⟩) 0 c,.inr ⟨b,c,hβ,rfl⟩,λ_ _ _ _=>?_⟩;simp only[execOp,hxe,hz,q7I,q7J,q7N,hsl,q7M,q7O];by_cases e:c=0
   .rw[if_pos e];simp
   .rw[if_neg e];simp[jZ]
theorem Wb{ts tx:TypeId}{x y:Operand}{d m s bytes:Nat}{k:IntKind}{z:Array Value}(hb:elB P ts=some (s,bytes))(hz:elZ P ts=some z)(htx:P.underlying tx=some (.int k))(hzs:z.size=s)(hs:0<s)(hby:0<bytes)(hby2:bytes<=100)(hm:0<m)(hm2:m<=64):
  OpOk P (.call {callee:= .builtin .append,args:= #[x,y],argTypes:= #[ts,tx]}) ty [(x,.c (.one (.val (.slice none 0 0)))),(y,qu .i64 m)] [] (.c (.one (.gs d m))) [(d,some (.grow s []))]:=by
 intro dst pos after guard a w H β K Q hins _ _ hon hK;have hx:=(hins _ q6W).1;have hy:=(hins (y,qu .i64 m) (by simp)).1;simp only at hx hy;obtain⟨e,i,h1,h2,rfl,rfl⟩:=B1 hb;obtain⟨e',i',zv,h1',h2',hz',rfl⟩:=B2 hz;rw[h1]at h1';cases h1'
 rw[h2]at h2';cases h2'
 have hw:IntKind.i64.wrap (m:Int)=(m:Int):=EI (by omega);have hneg: ¬((m:Int)<0):=by omega
 have hmb:m*i.bytes<=64*100:=q7v hm2 hby2
 have hbig: ¬((m:Int)*(i.bytes:Int)>2^48):=by
  have:(m:Int)*i.bytes<=6400:=by rw[<-q6v];exact Int.ofNat_le.2 hmb
  omega
 have h0:m*i.size≠0:=Nat.mul_ne_zero (by omega) (by omega)
 have hnb: ¬Builtin.nextslicecap (0+m) 0*i.bytes>2^48:=by
  have h3:Builtin.nextslicecap (0+m) 0*i.bytes<=(2*(0+m)+1000)*i.bytes:=q7x _ (Pc (0+m) 0 (by omega));have h4:(2*(0+m)+1000)*i.bytes<=1128*100:=q7v (by omega) hby2;omega
 have hneed: ¬(((0+m:Nat):Int)>IntKind.i64.max):=by
  have:IntKind.i64.max=9223372036854775807:=by decide
  rw[this];omega
 have hroom: ¬0+m<=0:=by omega
 have hrun: ∃(c:Nat)(w1:World)(arr:Array Value)(T:TypeId),m<=c/\w1.heap=w.heap/\w1.os=w.os/\w1.tape=w.tape/\w1.output=w.output/\arr.size=c*i.size/\(Builtin.append_ #[ts,tx] ty #[.slice none 0 0,.int .i64 m]).run P w= .ok (.slice (some ⟨w.heap.size,0,none⟩) m c) (w1.alloc (.cells arr T)):=by
  have hf: ∀w':World,(Builtin.firstCells i.size 0 (.slice none 0 0)).run P w'= .ok #[] w':=λw'=>by simp[Builtin.firstCells]
  refine⟨(Question.appendCap (0+m) 0 e).cut (w.tape w.drawn (.appendCap (0+m) 0 e)),{w with drawn:=w.drawn+1},#[]++Builtin.zeroCells zv.cells m++Builtin.zeroCells zv.cells ((Question.appendCap (0+m) 0 e).cut (w.tape w.drawn (.appendCap (0+m) 0 e)) -(0+m)),e,by simp[Question.cut],rfl,rfl,rfl,rfl,?_,?_⟩
  .have hc:0+m<=(Question.appendCap (0+m) 0 e).cut (w.tape w.drawn (.appendCap (0+m) 0 e)):=by simp[Question.cut]
   generalize(Question.appendCap (0+m) 0 e).cut (w.tape w.drawn (.appendCap (0+m) 0 e))=c at*;simp only[Array.size_append,E3,hzs,List.size_toArray,q6Q,q7F];rw[<-q79];congr 1;omega
  .have ho':=hf {w with drawn:=w.drawn+1}
   simp only[Builtin.append_,q6L,q6G,q6F,q7N,qI h1,qI htx,q7M,jE h2,q7O,if_true,asInt,asIntOf,hw,hneg,if_false,w9 h2,hbig,q6x,hroom,Bool.not_true,q6t,hneed,false_and,hnb,run_choose,Question.forced,run_askRoom,ho',h0,vT h2 hz',newRow,run_newObj];simp;rfl
 obtain⟨c,w1,arr,T,hc1,e1,e2,e3,e4,hsz,hrun⟩:=hrun;have hargs:(#[x,y]:Array Operand).map a.eval= #[a.eval x,a.eval y]:=by simp
 have hexec:(execOp a.eval ⟨dst,.call {callee:= .builtin .append,args:= #[x,y],argTypes:= #[ts,tx]},ty,pos,after,guard⟩).run P w= .ok (.value (.slice (some ⟨w.heap.size,0,none⟩) m c)) (w1.alloc (.cells arr T)):=by
  simp only[execOp,resolve,q7N,q7O,q7M,invoke,builtin,hargs,hx,hy,hrun]
 unfold Oper.wp;rw[hexec];have hon1:=hon.congr e1;have hst:=Step.alloc (β:=β) d c (.cells arr T) hon1;have hsize:w1.heap.size=w.heap.size:=by rw[e1]
 rw[hsize]at hst;have hkn:j2 [] [(d,some (Blk.grow i.size []))]=[d]:=by simp[j2,look]
 have hkw:kwOf [] [(d,some (Blk.grow i.size []))]=[]:=by simp[kwOf,look]
 have hkd:vo [(d,some (Blk.grow i.size []))]=[]:=by simp[vo]
 rw[hkn,hkw,hkd]at hK;refine hK _ _ H (β.set d (some (w.heap.size,c))) ⟨by rw[hst.os,e2],by rw[hst.tape,e3],by rw[hst.output,e4],(by simp[hsize]),λb hb' hk'=>?_,hst.hle,λb hb'=> .inl hb',hst.hon,hst.beta,λq hq b c' hb'=>⟨(hst.fresh q hq b c' hb').1,.inl ?_⟩,hst.ninj⟩ (.inr ⟨_,_,Bm.set_same _ _ _,rfl⟩) ?_
 .rw[hst.keep b (by omega) (λq hq=>by simp at hq),e1]
 .have:q=d:=by simpa using hq
  subst this;rw[Bm.set_same]at hb';cases hb';exact q7j _
 .intro q b hqb
  simp only[q70,q7L,q7K]at hqb;obtain⟨rfl,rfl⟩:=hqb;refine .inr ⟨w.heap.size,c,arr,T,Bm.set_same _ _ _,?_,hsz,q7G _,trivial⟩;have:=wj w1 (.cells arr T);rw[hsize]at this;exact this
theorem q5W(hm:P.follows .mixedOrders=true){f:FuncId}{fn:Func}{c:Code}{n:Nat}(d:Nat)(hf:P.funcs[f]?=some fn)(hb:fn.body=some c)(hn:fn.ntmps=n)(hname:fn.name≠ "runtime.NumGoroutine")
  {G:List (Nat×Hint P)}{ws:List WV}{R:Nat->WV}(k0:Nat){t:Ty}{b:Bd}{l:List t.den}(hok: ∀v∈ws,v.ok)(hlen:Nat.ble ws.length n=true)(hRk: ∀k,(R k).ok)
  (hRρ: ∀(ρ:Nat->Nat) k,(R k).exp.map ρ=(R (ρ k)).exp)(hRi: ∀k,(R k).ids=[k])(ann:Ann P)
  (hh:Hold (wp ⟨G,n,[]⟩ c ann (vu (ws) []) (λ_ e st=>retO P fn.results.toList (R k0) k0 t l e st))):vU P f ((ws.map WV.exp)) [] (R d).exp [(d,some (WB.gro t b l).exp)]:=by
 have h:=hh.h;have ht:=CN hm h (wh hok (λp hp=>by simp at hp));rw[zW]at ht;have hkn:j2 [] [(d,some (Blk.grow t.w (jh t l)))]=[d]:=rfl;have hcm: ∀ρ:Nat->Nat,(jh t l).map (Atom.map ρ)=jh t l:=λρ=>by rw[z6];exact Ci ρ _
 refine AD (λk=>if k=d then k0 else k) hf hb hn hname (by rw[q6P];exact q7g hlen) (λp hp=>by simp at hp) (λp hp=>by simp at hp) (λp hp=>by simp at hp) (λp hp=>by simp at hp) ?_ ?_ ?_
 .intro k hk k' b' hb' hne
  have hk:k∈[d]:=hk;simp only[q70,q7L]at hk hb';exact absurd (hk.trans hb'.1.symm) hne
 .rintro k (hk|⟨k',b',hb',hm'⟩)
  .left
   have:=WV.men_ids hk;rw[hRi]at this;show k∈[d];exact this
  .simp only[q70,q7L,q7K]at hb'
   obtain⟨rfl,rfl⟩:=hb';simp only[WB.exp,Blk.men,zI]at hm';cases hm'
 .intro E hn' hK a w H β hr
  refine wp_mono (ht E hn' hK a w H β hr) ?_
  rintro e a' w' ⟨s,H',β',⟨ann',st0,rfl,hk0,hΨ⟩,hr0⟩
  obtain⟨st',he,hk',hΦ⟩:=IW (n:=n) (Ks:=[]) hk0 hΨ;clear hΨ;obtain⟨H',β',hr'⟩:=he E hn' hK a' w' H' β' hr0;unfold Fm at hΦ;split at hΦ
  .rename_i t' b' l' hl
   split at hΦ
   .rename_i hbt
    have:=Ty.beq_eq hbt;cases this;obtain⟨h0,hΦ⟩:=hΦ;have h0:l'=l:=h0;subst h0;obtain⟨h1,R',h2,h3⟩:=Ay hk' (hRk k0) hΦ;refine⟨st'.toA,H',β',⟨h1,⟨R',h2,λβ H v hv=>?_⟩,?_⟩,hr'⟩
    .have hs:=h3 β H v hv
     refine(AV.sat_map (ρ:=λk=>if k=d then k0 else k) (β:=β) (H:=H) (a:=(R d).exp) (v:=v)).1 ?_;rw[hRρ];show(R (if d=d then k0 else d)).exp.sat β H v;rw[if_pos rfl];exact hs
    .intro k b1 hb1
     simp only[q70,q7L,q7K]at hb1;obtain⟨rfl,rfl⟩:=hb1;refine⟨.grow t.w (jh t l'),by rw[show(if k=k then k0 else k)=k0 from if_pos rfl,qN,hl];rfl,?_⟩;intro β w H hh;have:=(Blk.rep_map (ρ:=λq=>if q=k then k0 else q) (β:=β) (w:=w) (H:=H) (k:=k) (x:= .grow t.w (jh t l'))).1 (by simp only[Blk.map,hcm,if_true];simpa using hh);exact this
   .exact hΦ.elim
  .exact hΦ.elim
def gGw(P:Program)(B:Nat):Op->Option Tmp->(Nat->Option WB)->List WV->HR
 | .call {callee:= .builtin .cap,args:=aas,argTypes:=ts},_,_,[.c (.one (.vl (.slice none 0 0)))]=>match aas.toList,ts.toList with
  |[_],[t]=>bif vV P t then .ok [] (.c (.one (.kn .i64 0))) [] []else .bad
  |_,_=> .bad
 | .slice t _ none (some _) none,_,_,[.c (.one (.vl (.slice none 0 0))),.c (.one (.kn _ 0))]=>bif (jA P t).isSome then .ok [] (.c (.one (.vl (.slice none 0 0)))) [] []else .bad
 | .slice t _ none (some _) none,_,_,[.c (.one (.gs k n w nb)),.c (.one (.kn _ 0))]=>bif (jA P t).isSome then .ok [] (.c (.one (.gs k 0 w nb))) [] []else .bad
 | .call {callee:= .builtin .append,args:=aas,argTypes:=ts},some d,_,[.c (.one (.vl (.slice none 0 0))),.c (.one a)]=>match aas.toList,ts.toList,asN a with
  |[_,_],[t,u],some (.i64,_,n)=>match elB P t,elZ P t,intK P u with
   |some (s,b),some z,some _=>bif Nat.beq s 3&&Nat.beq z.size 3&&Nat.ble 1 b&&Nat.ble b 100 then .ok [0<n,n<=64] (.c (.one (.gs d n 3 64))) [] [(d,some (.gro .rat (.n B) []))]else .bad
   |_,_,_=> .bad
  |_,_,_=> .bad
 |_,_,_,_=> .bad
def GL(B:Nat):Ext P:=⟨gGw P B,by
 intro op dst ty bl vs hl;unfold gGw;split
 .rename_i aas ts _ _
  split
  .rename_i x t ha ht
   have:=BT ha;subst this
   have:=BT ht;subst this
   cases hs:vV P t with
   |false=>exact trivial
   |true=>
    intro hv _ hvc kin hk _;rw[qx hk];unfold vV at hs;split at hs
    .rename_i e he;exact⟨Wc he,⟨trivial,rfl⟩,qz⟩
    .cases hs
  .exact trivial
 .rename_i t _ _ kk
  cases hs:jA P t with
  |none=>exact trivial
  |some es=>
   intro hv _ hvc kin hk _;rw[qx hk];exact⟨q1L hs,⟨rfl,rfl⟩,qz⟩
 .rename_i t _ _ k n w nb kk
  cases hs:jA P t with
  |none=>exact trivial
  |some es=>
   intro hv _ hvc kin hk _;rw[qx hk];exact⟨q1K hs,⟨q7G _,rfl⟩,qz⟩
 .rename_i aas ts d a
  split
  .rename_i x y t u nb n ha ht hn
   have:=AF ha;subst this
   have:=AF ht;subst this
   split
   .rename_i s b z kk hb hz hu
    cases hc:Nat.beq s 3&&Nat.beq z.size 3&&Nat.ble 1 b&&Nat.ble b 100 with
    |false=>exact trivial
    |true=>
     simp only[q6s]at hc;have q1:=q7e hc.1.1.1;have q2:=q7e hc.1.1.2
     have q3:=q7g hc.1.2;have q4:=q7g hc.2
     subst q1;intro hv _ hvc kin hk _;rw[qx hk];have g1:0<n:=hvc _ q6W;have g2:n<=64:=hvc (n<=64) (by simp)
     have hu2:P.underlying u=some (.int kk):=by
      unfold intK at hu;split at hu
      .cases hu;assumption
      .cases hu
     refine⟨?_,⟨g2,rfl⟩,z4 (λx hx=>by cases hx)⟩;have e:=jn (jR hn).1;show OpOk P _ _ [(x,.c (.one (.val (.slice none 0 0)))),(y,(WV.c (.one a)).exp)] [] (.c (.one (.gs d n))) [(d,some (.grow 3 []))];rw[e];exact Wb hb hz hu2 q2 (by decide) (by omega) q4 g1 g2
   .exact trivial
  .exact trivial
 .exact trivial⟩
end
end
theorem QQ{n:Nat}(hx1:n<=64)(d:Nat):vU Tryz.prog 189 [.c (.one (.val (.slice none 0 0))),qu .i64 n] [] (.c (.one (.gs d 0))) [(d,some (.grow 3 []))]:=by
 have hok: ∀v∈([.c (.one (.vl (.slice none 0 0))),.c (.one (.dt (.nat .i64) (.n 64) n))]:List WV),v.ok:=λv hv=>by
  simp only[q6U,q72,or_false]at hv;rcases hv with rfl|rfl
  .exact⟨rfl,rfl⟩
  .exact⟨hx1,rfl⟩
 refine q5W (R:=λk=> .c (.one (.gs k 0 3 64))) (t:= .rat) (b:= .n 68719476736) (l:=[]) (G:=[]) (n:=27) (ws:=[.c (.one (.vl (.slice none 0 0))),.c (.one (.dt (.nat .i64) (.n 64) n))]) hmix d Tryz.func189 rfl rfl (by decide) 90001 hok rfl (λk=>⟨q7G _,rfl⟩) (λ_ _=>rfl) (λ_=>rfl) (.cond (.dead) (.h 3 2 (.ext (GL 68719476736)) (.h 3 6 (.i .sub) (.cond (.h 5 2 (.ext (GL 68719476736)) (.h 5 3 (.ext (GL 68719476736)) (.h 5 5 (.ext (GL 68719476736)) (.h 5 8 (.ext (GL 68719476736)) (.nil))))) (.nil))))) (kcast (by kernel_rfl) (Sp (n<0) (λh1=>(?_:False)) (λh2=>I (?_:0<=n) (Sp (0<n-0) (λh3=>I (?_:0<n-0) (I (?_:(n-0)<=64) (q6q (Eq.refl ([]:List Rat)) ((Eq.refl 0))))) (λh4=>q6q (Eq.refl ([]:List Rat)) ((Eq.refl 0)))))))<;>omega
def gGr:Op->Option Tmp->(Nat->Option WB)->List WV->HR
 | .call {callee:= .value fx,args:=xs,argTypes:=ts},some d,_,[v,.c (.one (.vl (.slice none 0 0))),.c (.one m)]=>match asN m with
  |some (.i64,_,n)=>bif wG 189 v then .ok [n<=64] (.c (.one (.gs d 0 3 64))) [] [(d,some (.gro .rat (.n 68719476736) []))]else .bad
  |_=> .bad
 |_,_,_,_=> .bad
def q4H:Ext Tryz.prog:=⟨gGr,by
 intro op dst ty bl vs hl;unfold gGr;split
 .rename_i fx xs ts d v m
  split
  .rename_i nb n hn
   cases hf:wG 189 v with
   |false=>exact trivial
   |true=>
    simp only[cond_true];intro hv _ hvc kin hk _;rw[qx hk,C2];rw[C2]at hl;have hle:n<=64:=hvc _ q6W;refine⟨?_,⟨q7G _,rfl⟩,z4 (λx hx=>by cases hx)⟩;show OpOk _ _ ty ((fx,v.exp)::List.zip xs.toList [.c (.one (.val (.slice none 0 0))),(WV.c (.one m)).exp]) [] (.c (.one (.gs d 0))) [(d,some (.grow 3 []))];rw[Av hf,jn (jR hn).1];exact BQ (by simp at hl;simp;omega) (QQ hle d)
  .exact trivial
 .exact trivial⟩
abbrev Vu:FO:=⟨140,[(.sl (.sl .rat))],[(.s 2 (.s 32 (.n 1000)))],λz=>(λ(l:List (List Rat))=>[∀i,lenS l i<=64]) z,λk b z=>(λ(l:List (List Rat))=> .c (.one (.gs k ((catN l l.length).length) 3 (64)))) z,λb z=>(λ(l:List (List Rat))=> .gro .rat ((.n (b0 b).mx)) (catN l l.length)) z⟩
theorem Vv:Vu.OK Tryz.prog:=mkO hmix 36 90007 Tryz.func140 rfl rfl (by decide) [] (λ_=>rfl) (λ_ _ _=>rfl) (λ_ _=>rfl) (λ_ _ _=>⟨rfl,rfl⟩) (λ(l:List (List Rat)) k b hx hp=>⟨qa (show(catN l l.length).length<=64 from by rw[Dq];exact hp _ q6W _) rfl,q0u (Bnds.h1 hx)⟩) (λ(l:List (List Rat)) hx hp=>by
 have hl0:l.length<=2:=hx.1;have hp0: ∀i,lenS l i<=64:=hp _ (q6W);have hll:l.length<=2:=hx.1
 refine bodyO.g (.loop [.s 11 (.nat .i64) (.n 8),.s 3 (.nat .i64) (.n 64)] (λ((i,m):Nat×Nat)=>m=lenS l i/\i<=l.length) (λ((i,m):Nat×Nat)=>l.length-i) (λ((i,m):Nat×Nat)=> .cond (.cond (.dead) (.nil)) (.h 9 1 (.ext q4H) (.loop [.s 27 (.nat .i64) (.n 8),.g 6 90007 .rat (.n 68719476736) 64] (λ((i,o):Nat×List Rat)=>o=catN l i/\i<=l.length) (λ((i,o):Nat×List Rat)=>l.length-i) (λ((i,o):Nat×List Rat)=> .nil))))) (kcast (by kernel_rfl) (I (⟨rfl,q7G _⟩:0=lenS l 0/\0<=l.length) (λ(i:Nat)(m:Nat)(hb1:HB [.s 11 (.nat .i64) (.n 8),.s 3 (.nat .i64) (.n 64)] (i,m))(hI:m=lenS l i/\i<=l.length)=>have hv11:=(show i<=8 from hb1.1);have hv12:=(show m<=64 from hb1.2);have hIi:=hI.2;have hm2:=(show lenS l i+(l.getD i []).length<=64 from hp0 (i+1));have hm1:=hI.1;Sp (i<l.length) (λh2=>I (?_:i<l.length) (Sp (m+((l.getD i []).length)<0) (λh3=>(?_:False)) (λh4=>I (show(i+1)<=8 by omega:Bnd (.nat .i64) (.n 8) (i+1)) (I (show(m+((l.getD i []).length))<=64 by omega:Bnd (.nat .i64) (.n 64) (m+((l.getD i []).length))) (q6q (⟨by rw[hI.1];rfl,by omega⟩:(m+((l.getD i []).length))=lenS l (i+1)/\(i+1)<=l.length) (?_:l.length-(i+1)<l.length-i)))))) (λh5=>I (?_:m<=64) (I (rfl:0=([]:List Rat).length) (I (⟨rfl,q7G _⟩:([]:List Rat)=catN l 0/\0<=l.length) (λ(i:Nat)(o:List Rat)(hb6:HB [.s 27 (.nat .i64) (.n 8),.g 6 90007 .rat (.n 68719476736) 64] (i,o))(hJ:o=catN l i/\i<=l.length)=>have hv9:=(show i<=8 from hb6.1);have hv10:=(show o.length<=64 from hb6.2.1);have hJi:=hJ.2;have hol:=(show o.length=lenS l i from by rw[hJ.1,Dq]);have hm4:=(show lenS l i+(l.getD i []).length<=64 from hp0 (i+1));Sp (i<l.length) (λh7=>I (?_:i<l.length) (I (?_:o.length=o.length) (I (show(i+1)<=8 by omega:Bnd (.nat .i64) (.n 8) (i+1)) (I (by(try simp only[q6M,q6N,q6Q])<;>omega:o.length+(l.getD i []).length=(o++(l.getD i [])).length) (I (by(try simp only[q6M,q6N,q6Q])<;>omega:o.length+(l.getD i []).length<=64) (q6q (⟨by rw[hJ.1];rfl,by omega⟩:(o++(l.getD i []))=catN l (i+1)/\(i+1)<=l.length) (?_:l.length-(i+1)<l.length-i))))))) (λh8=>q6q (by rw[hJ.1,show i=l.length by omega]:o=catN l l.length) ((by rw[hJ.1,show i=l.length by omega]:o.length=(catN l l.length).length))))))))))<;>omega)
abbrev Vt:CtrO Tryz.prog:=FO.c Vv
abbrev Vx:FO:=⟨78,[(.pr (.int .i64) (.pr (.int .i64) (.pr (.sl .rat) (.pr (.sl .rat) (.sl (.sl (.pr (.pr .rat (.pr .rat .rat)) .rat)))))))],[(.p (.n 8) (.p (.n 8) (.p (.s 32 (.n 1000)) (.p (.s 32 (.n 1000)) (.s 32 (.s 32 (.p (.p (.n 1000) (.p (.n 1000) (.n 1000))) (.n 1000))))))))],λz=>(λ(x:Int×Int×List Rat×List Rat×List (List ((Rat×Rat×Rat)×Rat)))=>[x.2.2.1.length+x.2.2.2.1.length<=64,SmS x]) z,λk b z=>(λ(x:Int×Int×List Rat×List Rat×List (List ((Rat×Rat×Rat)×Rat)))=> .c (.one (.gs k ((numR x x.2.2.2.2.length).length) 3 (4194304)))) z,λb z=>(λ(x:Int×Int×List Rat×List Rat×List (List ((Rat×Rat×Rat)×Rat)))=> .gro .rat ((.n (b0 b).mx)) (numR x x.2.2.2.2.length)) z⟩
theorem Vy:Vx.OK Tryz.prog:=mkO hmix 44 90008 Tryz.func78 rfl rfl (by decide) [(140,.o Vt)] (λ_=>rfl) (λ_ _ _=>rfl) (λ_ _=>rfl) (λ_ _ _=>⟨rfl,rfl⟩) (λ(x:Int×Int×List Rat×List Rat×List (List ((Rat×Rat×Rat)×Rat))) k b hx hp=>⟨qa (q1s (hp _ q6W) (hp _ (q6V _ q6W))) rfl,Pe (Bnds.h1 hx) _⟩) (λ(x:Int×Int×List Rat×List Rat×List (List ((Rat×Rat×Rat)×Rat))) hx hp=>by
 have hp0:x.2.2.1.length+x.2.2.2.1.length<=64:=hp _ (q6W);have hp1:SmS x:=hp _ (q6V _ (q6W));have hpl:x.2.2.2.2.length<=32:=hx.2.2.2.2.1;have hrw:=Id λl hl=>(hx.2.2.2.2.2 l hl).1
 refine bodyO.g (.h 1 4 (.mk (.im (.sl .rat) (.s 32 (.n 1000)))) (.loop [.s 17 (.nat .i64) (.n 1048576),.g 3 90008 .rat (.n 68719476736) 4194304] (λ((i,o):Nat×List Rat)=>o=numR x i/\i<=x.2.2.2.2.length) (λ((i,o):Nat×List Rat)=>x.2.2.2.2.length-i) (λ((i,o):Nat×List Rat)=> .cond (.loop [.s 23 (.nat .i64) (.n 1048576),.g 3 90009 .rat (.n 68719476736) 4194304] (λ((j,p):Nat×List Rat)=>p=numR x i++numN (x.2.2.2.2.getD i []) j/\j<=(x.2.2.2.2.getD i []).length) (λ((j,p):Nat×List Rat)=>(x.2.2.2.2.getD i []).length-j) (λ((j,p):Nat×List Rat)=> .cond (.h 8 12 (.mk (.im .rat (.n 1000))) (.nil)) (.nil))) (.nil)))) (kcast (by kernel_rfl) (I (N6 hp0: ∀i,lenS [x.2.2.1,x.2.2.2.1] i<=64) (I (by(try simp only[q6M,q6N,q6Q])<;>omega:(catN [x.2.2.1,x.2.2.2.1] [x.2.2.1,x.2.2.2.1].length).length=(catN [x.2.2.1,x.2.2.2.1] [x.2.2.1,x.2.2.2.1].length).length) (I (⟨rfl,q7G _⟩:(catN [x.2.2.1,x.2.2.2.1] [x.2.2.1,x.2.2.2.1].length)=numR x 0/\0<=x.2.2.2.2.length) (λ(i:Nat)(o:List Rat)(hb1:HB [.s 17 (.nat .i64) (.n 1048576),.g 3 90008 .rat (.n 68719476736) 4194304] (i,o))(hI:o=numR x i/\i<=x.2.2.2.2.length)=>have hv9:=(show i<=1048576 from hb1.1);have hv10:=(show o.length<=4194304 from hb1.2.1);have hIi:=hI.2;have hrl:=hrw i;Sp (i<x.2.2.2.2.length) (λh2=>I (?_:i<x.2.2.2.2.length) (I (?_:o.length=o.length) (I (⟨by rw[hI.1];exact(List.append_nil _).symm,q7G _⟩:o=numR x i++numN (x.2.2.2.2.getD i []) 0/\0<=(x.2.2.2.2.getD i []).length) (λ(j:Nat)(p:List Rat)(hb3:HB [.s 23 (.nat .i64) (.n 1048576),.g 3 90009 .rat (.n 68719476736) 4194304] (j,p))(hJ:p=numR x i++numN (x.2.2.2.2.getD i []) j/\j<=(x.2.2.2.2.getD i []).length)=>have hv6:=(show j<=1048576 from hb3.1);have hv7:=(show p.length<=4194304 from hb3.2.1);have hJi:=hJ.2;have hpl2:=(show p.length=(numR x i).length+4*j from by rw[hJ.1,q6M,G3]);have hnr:=G4 hp1 hp0 i;Sp (j<(x.2.2.2.2.getD i []).length) (λh4=>I (by(try simp only[q6M,q6N,q6Q])<;>omega:j<(x.2.2.2.2.getD i []).length) (I (?_:p.length=p.length) (I (show(j+1)<=1048576 by omega:Bnd (.nat .i64) (.n 1048576) (j+1)) (I (by(try simp only[q6M,q6N,q6Q])<;>omega:p.length+[(((x.2.2.2.2.getD i []).getD j ((0,(0,0)),0)).1).1,((((x.2.2.2.2.getD i []).getD j ((0,(0,0)),0)).1).2).1,((((x.2.2.2.2.getD i []).getD j ((0,(0,0)),0)).1).2).2,((x.2.2.2.2.getD i []).getD j ((0,(0,0)),0)).2].length=(p++[(((x.2.2.2.2.getD i []).getD j ((0,(0,0)),0)).1).1,((((x.2.2.2.2.getD i []).getD j ((0,(0,0)),0)).1).2).1,((((x.2.2.2.2.getD i []).getD j ((0,(0,0)),0)).1).2).2,((x.2.2.2.2.getD i []).getD j ((0,(0,0)),0)).2]).length) (I (by(try simp only[q6M,q6N,q6Q])<;>omega:p.length+[(((x.2.2.2.2.getD i []).getD j ((0,(0,0)),0)).1).1,((((x.2.2.2.2.getD i []).getD j ((0,(0,0)),0)).1).2).1,((((x.2.2.2.2.getD i []).getD j ((0,(0,0)),0)).1).2).2,((x.2.2.2.2.getD i []).getD j ((0,(0,0)),0)).2].length<=4194304) (q6q (⟨by rw[hJ.1,q6y];rfl,by omega⟩:(p++[(((x.2.2.2.2.getD i []).getD j ((0,(0,0)),0)).1).1,((((x.2.2.2.2.getD i []).getD j ((0,(0,0)),0)).1).2).1,((((x.2.2.2.2.getD i []).getD j ((0,(0,0)),0)).1).2).2,((x.2.2.2.2.getD i []).getD j ((0,(0,0)),0)).2])=numR x i++numN (x.2.2.2.2.getD i []) (j+1)/\(j+1)<=(x.2.2.2.2.getD i []).length) (?_:(x.2.2.2.2.getD i []).length-(j+1)<(x.2.2.2.2.getD i []).length-j))))))) (λh5=>I (show(i+1)<=1048576 by omega:Bnd (.nat .i64) (.n 1048576) (i+1)) (I (?_:p.length=p.length) (q6q (⟨by rw[hJ.1,show j=(x.2.2.2.2.getD i []).length by omega];rfl,by omega⟩:p=numR x (i+1)/\(i+1)<=x.2.2.2.2.length) (?_:x.2.2.2.2.length-(i+1)<x.2.2.2.2.length-i)))))))) (λh8=>q6q (by rw[hI.1,show i=x.2.2.2.2.length by omega]:o=numR x x.2.2.2.2.length) ((by rw[hI.1,show i=x.2.2.2.2.length by omega]:o.length=(numR x x.2.2.2.2.length).length))))))))<;>omega)
abbrev Vw:CtrO Tryz.prog:=FO.c Vy
abbrev q2G:FI:=⟨46,[(.pr (.int .i64) (.pr (.int .i64) (.pr (.sl .rat) (.pr (.sl .rat) (.sl (.sl (.pr (.pr .rat (.pr .rat .rat)) .rat)))))))],[(.p (.n 8) (.p (.n 8) (.p (.s 32 (.n 1000)) (.p (.s 32 (.n 1000)) (.s 32 (.s 32 (.p (.p (.n 1000) (.p (.n 1000) (.n 1000))) (.n 1000))))))))],λz=>(λ(x:Int×Int×List Rat×List Rat×List (List ((Rat×Rat×Rat)×Rat)))=>[PosS x,x.2.2.1.length+x.2.2.2.1.length<=64,SmS x]) z,λb z=>(λ(x:Int×Int×List Rat×List Rat×List (List ((Rat×Rat×Rat)×Rat)))=> .c (.one (.dt (.int .i64) (.n 8) (chkS x)))) z⟩
theorem q2H:q2G.OK Tryz.prog:=qB hmix 43 Tryz.func46 rfl rfl (by decide) [(78,.o Vw),(79,.c q2U),(82,.c Ef),(83,.c Mp),(84,.c q30)] (λ(x:Int×Int×List Rat×List Rat×List (List ((Rat×Rat×Rat)×Rat))) b hx hp=>qa (O9 x) rfl) (λ(x:Int×Int×List Rat×List Rat×List (List ((Rat×Rat×Rat)×Rat))) hx hp=>by
 have hp0:PosS x:=hp _ (q6W);have hp1:x.2.2.1.length+x.2.2.2.1.length<=64:=hp _ (q6V _ (q6W));have hp2:SmS x:=hp _ (q6V _ (q6V _ (q6W)));have hpl:x.2.2.2.2.length<=32:=hx.2.2.2.2.1;have hrw:=Id λl hl=>(hx.2.2.2.2.2 l hl).1
 refine⟨.pre 2 (.frz 9 true [3]) (.cond (.nil) (.cond (.nil) (.cond (.nil) (.loop [.s 34 (.nat .i64) (.n 1048576)] (λ(i:Nat)=>i<=x.2.2.2.2.length) (λ(i:Nat)=>x.2.2.2.2.length-i) (λ(i:Nat)=> .cond (.cond (.dead) (.nil)) (.h 18 1 (.c q2O) (.cond (.dead) (.nil)))))))),kcast (by kernel_rfl) (I (?_:x.2.2.1.length+x.2.2.2.1.length<=64) (I (?_:SmS x) (I (?_:(numR x x.2.2.2.2.length).length=(numR x x.2.2.2.2.length).length) (Sp (qM x.2.2.1 x.1≠0) (λh1=>(SW h1:qM x.2.2.1 x.1=chkS x)) (λh2=>Sp (qM x.2.2.2.1 x.2.1≠0) (λh3=>(SX h2 h3:qM x.2.2.2.1 x.2.1=chkS x)) (λh4=>Sp ((!(rcS x))=true) (λh5=>(q4p h2 h4 h5:1=chkS x)) (λh6=>I (q7G _:0<=x.2.2.2.2.length) (λ(i:Nat)(hb7:HB [.s 34 (.nat .i64) (.n 1048576)] i)(hA:i<=x.2.2.2.2.length)=>have hv14:=(show i<=1048576 from hb7);have hrl:=hrw i;Sp (i<x.2.2.2.2.length) (λh8=>I (?_:i<x.2.2.2.2.length) (Sp (decide (0<=fidx (λj=>decide (jb ((x.2.2.2.2.getD i []).getD j ((0,(0,0)),0)).2<=0)) 0 (x.2.2.2.2.getD i []).length)=true) (λh9=>(posW hp0 (by omega) (of_decide_eq_true h9):False)) (λh10=>I (show(i+1)<=1048576 by omega:Bnd (.nat .i64) (.n 1048576) (i+1)) (q6q ((by omega):(i+1)<=x.2.2.2.2.length) (?_:x.2.2.2.2.length-(i+1)<x.2.2.2.2.length-i))))) (λh11=>Sp (decide (0<=fidx (λj=>decide (2048<ve ((numR x x.2.2.2.2.length).getD j 0))) 0 (numR x x.2.2.2.2.length).length)=true) (λh12=>(Pg hx (by decide) (of_decide_eq_true h12):False)) (λh13=>(q4q h2 h4 h6:0=chkS x)))))))))))⟩<;>omega)
abbrev q2F:Ctr Tryz.prog:=FI.c q2H
abbrev Wk:FI:=⟨24,[(.pr (.int .i64) (.pr (.int .i64) (.pr (.sl .rat) (.pr (.sl .rat) (.sl (.sl (.pr (.pr .rat (.pr .rat .rat)) .rat))))))),(.int .i64)],[(.p (.n 6) (.p (.n 6) (.p (.s 16 (.n 6)) (.p (.s 16 (.n 6)) (.s 16 (.s 16 (.p (.p (.n 12) (.p (.n 12) (.n 12))) (.n 12)))))))),(.n 9223372036854775808)],λz=>(λ(s:Int×Int×List Rat×List Rat×List (List ((Rat×Rat×Rat)×Rat)))(n:Int)=>[SgO s]) z.1 z.2,λb z=>(λ(s:Int×Int×List Rat×List Rat×List (List ((Rat×Rat×Rat)×Rat)))(n:Int)=> .c (.one (.dt (.int .i64) (.n 8) (szE n)))) z.1 z.2⟩
theorem Wl:Wk.OK Tryz.prog:=qB hmix 17 Tryz.func24 rfl rfl (by decide) [(46,.c q2F)] (λ(s:Int×Int×List Rat×List Rat×List (List ((Rat×Rat×Rat)×Rat)))(n:Int) b hx hp=>qa (Jy n) rfl) (λ(s:Int×Int×List Rat×List Rat×List (List ((Rat×Rat×Rat)×Rat)))(n:Int) hx hp=>by
 have hx1:Int.natAbs n<=9223372036854775808:=hx.2;have hp0:SgO s:=hp _ (q6W)
 refine⟨.cond (.dead) (.nil),kcast (by kernel_rfl) (I (hp0.p:PosS s) (I (hp0.k:s.2.2.1.length+s.2.2.2.1.length<=64) (I (hp0.m:SmS s) (Sp (chkS s≠0) (λh1=>(h1 hp0.chk:False)) (λh2=>Sp (n<0) (λh3=>(Fs (by omega):2=szE n)) (λh4=>Sp (6<n) (λh5=>(Fs (by omega):2=szE n)) (λh6=>(TG (by omega):0=szE n))))))))⟩)
abbrev I8:Ctr Tryz.prog:=FI.c Wl
abbrev S1:FI:=⟨28,[(.pr (.int .i64) (.pr (.int .i64) (.pr (.sl .rat) (.pr (.sl .rat) (.sl (.sl (.pr (.pr .rat (.pr .rat .rat)) .rat))))))),(.int .i64)],[(.p (.n 6) (.p (.n 6) (.p (.s 16 (.n 6)) (.p (.s 16 (.n 6)) (.s 16 (.s 16 (.p (.p (.n 12) (.p (.n 12) (.n 12))) (.n 12)))))))),(.n 9223372036854775808)],λz=>(λ(s:Int×Int×List Rat×List Rat×List (List ((Rat×Rat×Rat)×Rat)))(n:Int)=>[SgO s]) z.1 z.2,λb z=>(λ(s:Int×Int×List Rat×List Rat×List (List ((Rat×Rat×Rat)×Rat)))(n:Int)=> .c (.one (.dt (.int .i64) (.n 8) (szE n)))) z.1 z.2⟩
theorem S2:S1.OK Tryz.prog:=qB hmix 17 Tryz.func28 rfl rfl (by decide) [(57,.c S5)] (λ(s:Int×Int×List Rat×List Rat×List (List ((Rat×Rat×Rat)×Rat)))(n:Int) b hx hp=>qa (Jy n) rfl) (λ(s:Int×Int×List Rat×List Rat×List (List ((Rat×Rat×Rat)×Rat)))(n:Int) hx hp=>by
 have hx1:Int.natAbs n<=9223372036854775808:=hx.2;have hp0:SgO s:=hp _ (q6W)
 refine⟨.cond (.dead) (.nil),kcast (by kernel_rfl) (I (hp0.p:PosS s) (Sp (chkS s≠0) (λh1=>(h1 hp0.chk:False)) (λh2=>Sp (n<0) (λh3=>(Fs (by omega):2=szE n)) (λh4=>Sp (6<n) (λh5=>(Fs (by omega):2=szE n)) (λh6=>(TG (by omega):0=szE n))))))⟩)
abbrev S0:Ctr Tryz.prog:=FI.c S2
abbrev Wm:FI:=⟨9,[(.pr (.int .i64) (.pr (.int .i64) (.pr (.sl .rat) (.pr (.sl .rat) (.sl (.sl (.pr (.pr .rat (.pr .rat .rat)) .rat))))))),(.int .i64)],[(.p (.n 6) (.p (.n 6) (.p (.s 16 (.n 6)) (.p (.s 16 (.n 6)) (.s 16 (.s 16 (.p (.p (.n 12) (.p (.n 12) (.n 12))) (.n 12)))))))),(.n 9223372036854775808)],λz=>(λ(s:Int×Int×List Rat×List Rat×List (List ((Rat×Rat×Rat)×Rat)))(n:Int)=>[SgO s,InR n]) z.1 z.2,λb z=>(λ(s:Int×Int×List Rat×List Rat×List (List ((Rat×Rat×Rat)×Rat)))(n:Int)=> .tup [.one (.dt (.sl (.sl jj)) bGr (A2 s n)),.one (.dt (.int .i64) (.n 8) (szE n))]) z.1 z.2⟩
theorem Wn:Wm.OK Tryz.prog:=qB hmix 40 Tryz.func9 rfl rfl (by decide) [(24,.c I8),(25,.c Pr),(26,.c q23),(27,.c Ry)] (λ(s:Int×Int×List Rat×List Rat×List (List ((Rat×Rat×Rat)×Rat)))(n:Int) b hx hp=>qc (qa ((hp _ q6W:SgO s).gb (hp _ (by simp))) rfl) (qc (qa (Jy n) rfl) qy)) (λ(s:Int×Int×List Rat×List Rat×List (List ((Rat×Rat×Rat)×Rat)))(n:Int) hx hp=>by
 have hx1:Int.natAbs n<=9223372036854775808:=hx.2;have hp0:SgO s:=hp _ (q6W);have hp1:InR n:=hp _ (q6V _ (q6W))
 refine⟨.cond (.nil) (.loop [.s 26 (.nat .i64) (.n 1048576),.g 7 90001 (.sl (.pr .rat (.pr .rat .rat))) (.s 64 (.p (.n 67108868) (.p (.n 67108868) (.n 67108868)))) 64] (λ((i,l):Nat×List (List (Rat×Rat×Rat)))=>l=grG s (qW s.2.2.1 (2^n.toNat)) (qW s.2.2.2.1 (2^n.toNat)) i/\i<=(qW s.2.2.1 (2^n.toNat)).length) (λ((i,l):Nat×List (List (Rat×Rat×Rat)))=>(qW s.2.2.1 (2^n.toNat)).length-i) (λ((i,l):Nat×List (List (Rat×Rat×Rat)))=> .cond (.h 9 5 (.mk (.im (.sl (.pr .rat (.pr .rat .rat))) (.s 64 (.p (.n 67108868) (.p (.n 67108868) (.n 67108868)))))) (.nil)) (.pre 11 (.frz 90001 true [7]) (.nil)))),kcast (by kernel_rfl) (I (hp0:SgO s) (Sp (szE n≠0) (λh1=>q6q (gr_1 h1:[]=A2 s n) (Eq.refl (szE n))) (λh2=>have hn0:=(Jz hp1 h2).1;have hn1:=(Jz hp1 h2).2;have hPu:=hp0.pu hn0 hn1;have hPv:=hp0.pv hn0 hn1;have hul:=hPu.l;have hvl:=hPv.l;have hkl:=hp0.du.l;have hkv:=hp0.dv.l;I (hPv:PaL s.2.2.2.1 (2^n.toNat)) (I (hn0:0<=n) (I (hn1:n<=1) (I (?_:1<=s.2.2.2.1.length) (I (hPu:PaL s.2.2.1 (2^n.toNat)) (I (hn0:0<=n) (I (hn1:n<=1) (I (?_:1<=s.2.2.1.length) (I (rfl:0=([]:List (List (Rat×Rat×Rat))).length) (I (⟨rfl,q7G _⟩:([]:List (List (Rat×Rat×Rat)))=grG s (qW s.2.2.1 (2^n.toNat)) (qW s.2.2.2.1 (2^n.toNat)) 0/\0<=(qW s.2.2.1 (2^n.toNat)).length) (λ(i:Nat)(l:List (List (Rat×Rat×Rat)))(hb3:HB [.s 26 (.nat .i64) (.n 1048576),.g 7 90001 (.sl (.pr .rat (.pr .rat .rat))) (.s 64 (.p (.n 67108868) (.p (.n 67108868) (.n 67108868)))) 64] (i,l))(hI:l=grG s (qW s.2.2.1 (2^n.toNat)) (qW s.2.2.2.1 (2^n.toNat)) i/\i<=(qW s.2.2.1 (2^n.toNat)).length)=>have hv6:=(show i<=1048576 from hb3.1);have hv7:=(show l.length<=64 from hb3.2.1);have hI2:=hI.2;have hll:=(show l.length=i by rw[hI.1,F1]);Sp (i<(qW s.2.2.1 (2^n.toNat)).length) (λh4=>I (?_:i<(qW s.2.2.1 (2^n.toNat)).length) (I (hp0.rp hn0 hn1 (by omega):RwP s ((qW s.2.2.1 (2^n.toNat)).getD i 0) (qW s.2.2.2.1 (2^n.toNat))) (I (?_:l.length=l.length) (I (show(i+1)<=1048576 by omega:Bnd (.nat .i64) (.n 1048576) (i+1)) (I (by(try simp only[q6M,q6N,q6Q])<;>omega:l.length+[rwG s ((qW s.2.2.1 (2^n.toNat)).getD i 0) (qW s.2.2.2.1 (2^n.toNat)) (qW s.2.2.2.1 (2^n.toNat)).length].length=(l++[rwG s ((qW s.2.2.1 (2^n.toNat)).getD i 0) (qW s.2.2.2.1 (2^n.toNat)) (qW s.2.2.2.1 (2^n.toNat)).length]).length) (I (by(try simp only[q6M,q6N,q6Q])<;>omega:l.length+[rwG s ((qW s.2.2.1 (2^n.toNat)).getD i 0) (qW s.2.2.2.1 (2^n.toNat)) (qW s.2.2.2.1 (2^n.toNat)).length].length<=64) (q6q (⟨q4K hI.1,by omega⟩:l++[rwG s ((qW s.2.2.1 (2^n.toNat)).getD i 0) (qW s.2.2.2.1 (2^n.toNat)) (qW s.2.2.2.1 (2^n.toNat)).length]=grG s (qW s.2.2.1 (2^n.toNat)) (qW s.2.2.2.1 (2^n.toNat)) (i+1)/\(i+1)<=(qW s.2.2.1 (2^n.toNat)).length) (?_:(qW s.2.2.1 (2^n.toNat)).length-(i+1)<(qW s.2.2.1 (2^n.toNat)).length-i)))))))) (λh5=>I (?_:l.length=l.length) (q6q ((gr_2 h2 hI.1 (by omega)).1:l=A2 s n) ((gr_2 h2 hI.1 (by omega)).2:0=szE n))))))))))))))))⟩<;>omega)
abbrev Mc:Ctr Tryz.prog:=FI.c Wn
abbrev Xp:FI:=⟨115,[(.pr (.int .i64) (.pr (.int .i64) (.pr (.sl .rat) (.pr (.sl .rat) (.sl (.sl (.pr (.pr .rat (.pr .rat .rat)) .rat)))))))],[(.p (.n 6) (.p (.n 6) (.p (.s 16 (.n 6)) (.p (.s 16 (.n 6)) (.s 16 (.s 16 (.p (.p (.n 12) (.p (.n 12) (.n 12))) (.n 12))))))))],λz=>(λ(x:Int×Int×List Rat×List Rat×List (List ((Rat×Rat×Rat)×Rat)))=>[Bnd qR bSfl x,0<x.2.2.2.2.length,∀i,i<x.2.2.2.2.length->(j3 x i).length=(j3 x 0).length]) z,λb z=>(λ(x:Int×Int×List Rat×List Rat×List (List ((Rat×Rat×Rat)×Rat)))=> .c (.agg [.dt qR (.p (.n 6) (.p (.n 6) (.p (.s 16 (.n 6)) (.p (.s 16 (.n 6)) (.s 16 (.s 16 (jK 12))))))) (qF x)])) z⟩
theorem Xq:Xp.OK Tryz.prog:=qB hmix 54 Tryz.func115 rfl rfl (by decide) [] (λ(x:Int×Int×List Rat×List Rat×List (List ((Rat×Rat×Rat)×Rat))) b hx hp=>qh (Fr (hp _ (by simp)))) (λ(x:Int×Int×List Rat×List Rat×List (List ((Rat×Rat×Rat)×Rat))) hx hp=>by
 have hp1:0<x.2.2.2.2.length:=hp _ (q6V _ (q6W));have hp2: ∀i,i<x.2.2.2.2.length->(j3 x i).length=(j3 x 0).length:=hp _ (q6V _ (q6V _ (q6W)));have hxl:x.2.2.2.2.length<=16:=hx.2.2.2.2.1
 refine⟨.h 1 4 (.mk (.gro .rat (.n 6))) (.h 1 8 (.mk (.gro .rat (.n 6))) (.pre 2 (.frz 14 true []) (.pre 2 (.frz 18 true []) (.loop [.s 4 (.nat .i64) (.n 1048576),.ex (gboX 3 90002 [(.dt (.int .i64) (.n 6) x.2.1),(.dt (.int .i64) (.n 6) x.1),(.dt (.sl .rat) (.s 16 (.n 6)) (([]:List Rat)++x.2.2.2.1)),(.dt (.sl .rat) (.s 16 (.n 6)) (([]:List Rat)++x.2.2.1))] [] (.sl (.pr (.pr .rat (.pr .rat .rat)) .rat)) (.s 16 (.p (.p (.n 12) (.p (.n 12) (.n 12))) (.n 12))) 1048576)] (λ((j,l):Nat×List (List ((Rat×Rat×Rat)×Rat)))=>l=swN x j/\j<=(j3 x 0).length) (λ((j,l):Nat×List (List ((Rat×Rat×Rat)×Rat)))=>(j3 x 0).length-j) (λ((j,l):Nat×List (List ((Rat×Rat×Rat)×Rat)))=> .cond (.loop [.s 6 (.nat .i64) (.n 1048576),.g 5 90001 (.pr (.pr .rat (.pr .rat .rat)) .rat) (.p (.p (.n 12) (.p (.n 12) (.n 12))) (.n 12)) 16] (λ((i,r):Nat×List ((Rat×Rat×Rat)×Rat))=>r=colN x j i/\i<=x.2.2.2.2.length) (λ((i,r):Nat×List ((Rat×Rat×Rat)×Rat))=>x.2.2.2.2.length-i) (λ((i,r):Nat×List ((Rat×Rat×Rat)×Rat))=> .cond (.h 9 9 (.mk (.im (.pr (.pr .rat (.pr .rat .rat)) .rat) (.p (.p (.n 12) (.p (.n 12) (.n 12))) (.n 12)))) (.nil)) (.pre 10 (.frz 90001 true [5]) (.h 10 1 (.ext DB) (.h 10 3 (.mk (.im (.sl (.pr (.pr .rat (.pr .rat .rat)) .rat)) (.s 16 (.p (.p (.n 12) (.p (.n 12) (.n 12))) (.n 12))))) (.nil)))))) (.pre 11 (.frz 90002 true []) (.nil))))))),kcast (by kernel_rfl) (I (rfl:0=([]:List Rat).length) (I (rfl:0=([]:List Rat).length) (I (by(try simp only[q6M,q6N,q6Q])<;>omega:0+x.2.2.2.1.length=(([]:List Rat)++x.2.2.2.1).length) (I (by(try simp only[q6M,q6N,q6Q])<;>omega:0+x.2.2.1.length=(([]:List Rat)++x.2.2.1).length) (I (rfl:([(.dt (.int .i64) (.n 6) x.2.1),(.dt (.int .i64) (.n 6) x.1),(.dt (.sl .rat) (.s 16 (.n 6)) (([]:List Rat)++x.2.2.2.1)),(.dt (.sl .rat) (.s 16 (.n 6)) (([]:List Rat)++x.2.2.1))]:List WA)=[(.dt (.int .i64) (.n 6) x.2.1),(.dt (.int .i64) (.n 6) x.1),(.dt (.sl .rat) (.s 16 (.n 6)) (([]:List Rat)++x.2.2.2.1)),(.dt (.sl .rat) (.s 16 (.n 6)) (([]:List Rat)++x.2.2.1))]) (I (rfl:([]:List WA)=[]) (I (rfl:0=([]:List (List ((Rat×Rat×Rat)×Rat))).length) (I (⟨rfl,q7G _⟩:([]:List (List ((Rat×Rat×Rat)×Rat)))=swN x 0/\0<=(j3 x 0).length) (λ(j:Nat)(l:List (List ((Rat×Rat×Rat)×Rat)))(hb1:HB [.s 4 (.nat .i64) (.n 1048576),.ex (gboX 3 90002 [(.dt (.int .i64) (.n 6) x.2.1),(.dt (.int .i64) (.n 6) x.1),(.dt (.sl .rat) (.s 16 (.n 6)) (([]:List Rat)++x.2.2.2.1)),(.dt (.sl .rat) (.s 16 (.n 6)) (([]:List Rat)++x.2.2.1))] [] (.sl (.pr (.pr .rat (.pr .rat .rat)) .rat)) (.s 16 (.p (.p (.n 12) (.p (.n 12) (.n 12))) (.n 12))) 1048576)] (j,l))(hI:l=swN x j/\j<=(j3 x 0).length)=>have hv9:=(show j<=1048576 from hb1.1);have hv10:=(show l.length<=1048576 from hb1.2.1.1);have hq0:=(show(j3 x 0).length=(x.2.2.2.2.getD 0 []).length from rfl);have hq1:=(show(x.2.2.2.2.getD 0 []).length<=16 from(AR hx 0).1);have hl0:=(show l.length=j by rw[hI.1,BS]);I (?_:0<x.2.2.2.2.length) (Sp (j<(x.2.2.2.2.getD 0 []).length) (λh2=>I (rfl:0=([]:List ((Rat×Rat×Rat)×Rat)).length) (I (⟨rfl,q7G _⟩:([]:List ((Rat×Rat×Rat)×Rat))=colN x j 0/\0<=x.2.2.2.2.length) (λ(i:Nat)(r:List ((Rat×Rat×Rat)×Rat))(hb3:HB [.s 6 (.nat .i64) (.n 1048576),.g 5 90001 (.pr (.pr .rat (.pr .rat .rat)) .rat) (.p (.p (.n 12) (.p (.n 12) (.n 12))) (.n 12)) 16] (i,r))(hJ:r=colN x j i/\i<=x.2.2.2.2.length)=>have hv6:=(show i<=1048576 from hb3.1);have hv7:=(show r.length<=16 from hb3.2.1);have hr0:=(show r.length=i by rw[hJ.1,Dv]);have hrw:=(show i<x.2.2.2.2.length->(x.2.2.2.2.getD i []).length=(x.2.2.2.2.getD 0 []).length from hp2 i);Sp (i<x.2.2.2.2.length) (λh4=>I (?_:i<x.2.2.2.2.length) (I (by(try simp only[q6M,q6N,q6Q])<;>omega:j<(x.2.2.2.2.getD i []).length) (I (?_:r.length=r.length) (I (show(i+1)<=1048576 by omega:Bnd (.nat .i64) (.n 1048576) (i+1)) (I (by(try simp only[q6M,q6N,q6Q])<;>omega:r.length+[(x.2.2.2.2.getD i []).getD j ((0,(0,0)),0)].length=(r++[(x.2.2.2.2.getD i []).getD j ((0,(0,0)),0)]).length) (I (by(try simp only[q6M,q6N,q6Q])<;>omega:r.length+[(x.2.2.2.2.getD i []).getD j ((0,(0,0)),0)].length<=16) (q6q (⟨q0x hJ.1,by omega⟩:r++[(x.2.2.2.2.getD i []).getD j ((0,(0,0)),0)]=colN x j (i+1)/\(i+1)<=x.2.2.2.2.length) (?_:x.2.2.2.2.length-(i+1)<x.2.2.2.2.length-i)))))))) (λh5=>I (?_:r.length=r.length) (I (?_:l.length=l.length) (I (show(j+1)<=1048576 by omega:Bnd (.nat .i64) (.n 1048576) (j+1)) (I (rfl:([(.dt (.int .i64) (.n 6) x.2.1),(.dt (.int .i64) (.n 6) x.1),(.dt (.sl .rat) (.s 16 (.n 6)) (([]:List Rat)++x.2.2.2.1)),(.dt (.sl .rat) (.s 16 (.n 6)) (([]:List Rat)++x.2.2.1))]:List WA)=[(.dt (.int .i64) (.n 6) x.2.1),(.dt (.int .i64) (.n 6) x.1),(.dt (.sl .rat) (.s 16 (.n 6)) (([]:List Rat)++x.2.2.2.1)),(.dt (.sl .rat) (.s 16 (.n 6)) (([]:List Rat)++x.2.2.1))]) (I (rfl:([]:List WA)=[]) (I (by(try simp only[q6M,q6N,q6Q])<;>omega:l.length+[r].length=(l++[r]).length) (I (by(try simp only[q6M,q6N,q6Q])<;>omega:l.length+[r].length<=1048576) (q6q (⟨q6d hI.1 hJ.1 h5 hJ.2,by omega⟩:l++[r]=swN x (j+1)/\(j+1)<=(j3 x 0).length) (?_:(j3 x 0).length-(j+1)<(j3 x 0).length-j)))))))))))) (λh8=>I (?_:l.length=l.length) ((Sj hI.1 h8 hI.2:(x.2.1,x.1,([]:List Rat)++x.2.2.2.1,([]:List Rat)++x.2.2.1,l)=qF x)))))))))))))⟩<;>omega)
abbrev Xo:Ctr Tryz.prog:=FI.c Xq
abbrev q3c:FI:=⟨168,[(.pr (.int .i64) (.pr (.int .i64) (.pr (.sl .rat) (.pr (.sl .rat) (.sl (.sl (.pr (.pr .rat (.pr .rat .rat)) .rat))))))),(.nat .i64)],[(.p (.n 6) (.p (.n 6) (.p (.s 16 (.n 6)) (.p (.s 16 (.n 6)) (.s 16 (.s 16 (.p (.p (.n 12) (.p (.n 12) (.n 12))) (.n 12)))))))),(.n 1048576)],λz=>(λ(x:Int×Int×List Rat×List Rat×List (List ((Rat×Rat×Rat)×Rat)))(i:Nat)=>[Bnd qR bSfl x,i<x.2.2.2.2.length]) z.1 z.2,λb z=>(λ(x:Int×Int×List Rat×List Rat×List (List ((Rat×Rat×Rat)×Rat)))(i:Nat)=> .c (.agg [.dt AU (.p (.n 6) (.p (.s 16 (.n 6)) (.s 16 (jK 12)))) (x.2.1,x.2.2.2.1,j3 x i)])) z.1 z.2⟩
theorem q3d:q3c.OK Tryz.prog:=qB hmix 15 Tryz.func168 rfl rfl (by decide) [] (λ(x:Int×Int×List Rat×List Rat×List (List ((Rat×Rat×Rat)×Rat)))(i:Nat) b hx hp=>qh (q5J (hp _ q6W) i)) (λ(x:Int×Int×List Rat×List Rat×List (List ((Rat×Rat×Rat)×Rat)))(i:Nat) hx hp=>by
 have hx1:i<=1048576:=hx.2;have hp1:i<x.2.2.2.2.length:=hp _ (q6V _ (q6W))
 refine⟨.nil,kcast (by kernel_rfl) (I (?_:i<x.2.2.2.2.length) ((rfl:(x.2.1,x.2.2.2.1,x.2.2.2.2.getD i [])=(x.2.1,x.2.2.2.1,j3 x i))))⟩<;>omega)
abbrev q3b:Ctr Tryz.prog:=FI.c q3d
abbrev q2M:FI:=⟨114,[(.pr (.int .i64) (.pr (.int .i64) (.pr (.sl .rat) (.pr (.sl .rat) (.sl (.sl (.pr (.pr .rat (.pr .rat .rat)) .rat))))))),.rat],[(.p (.n 6) (.p (.n 6) (.p (.s 16 (.n 6)) (.p (.s 16 (.n 6)) (.s 16 (.s 16 (.p (.p (.n 12) (.p (.n 12) (.n 12))) (.n 12)))))))),(.n 16384)],λz=>(λ(sf:Int×Int×List Rat×List Rat×List (List ((Rat×Rat×Rat)×Rat)))(t:Rat)=>[IsO sf t]) z.1 z.2,λb z=>(λ(sf:Int×Int×List Rat×List Rat×List (List ((Rat×Rat×Rat)×Rat)))(t:Rat)=> .tup [.agg [.dt AU bIso (ja sf t).1],.one (.dt (.int .i64) (.n 7) (ja sf t).2)]) z.1 z.2⟩
theorem q2N:q2M.OK Tryz.prog:=qB hmix 49 Tryz.func114 rfl rfl (by decide) [(116,.c HX),(117,.c M1),(118,.c P0),(168,.c q3b)] (λ(sf:Int×Int×List Rat×List Rat×List (List ((Rat×Rat×Rat)×Rat)))(t:Rat) b hx hp=>LZ (hp _ q6W)) (λ(sf:Int×Int×List Rat×List Rat×List (List ((Rat×Rat×Rat)×Rat)))(t:Rat) hx hp=>by
 have hp0:IsO sf t:=hp _ (q6W);have hxl:sf.2.2.2.2.length<=16:=hx.1.2.2.2.2.1
 refine⟨.cond (.nil) (.h 4 2 (.mk (.gro .rat (.n 6))) (.pre 5 (.frz 28 true []) (.loop [.s 9 (.nat .i64) (.n 1048576),.ex (gboX 8 90001 [(.dt (.int .i64) (.n 6) sf.1),(.dt (.sl .rat) (.s 16 (.n 6)) (([]:List Rat)++sf.2.2.1))] [] (.pr (.pr .rat (.pr .rat .rat)) .rat) (.p (.p (.n 200000) (.p (.n 200000) (.n 200000))) (.n 200000)) 1048576)] (λ((i,l):Nat×List ((Rat×Rat×Rat)×Rat))=>l=isoP sf t i/\i<=sf.2.2.2.2.length) (λ((i,l):Nat×List ((Rat×Rat×Rat)×Rat))=>sf.2.2.2.2.length-i) (λ((i,l):Nat×List ((Rat×Rat×Rat)×Rat))=> .cond (.h 8 1 (.ext DB) (.h 8 8 (.mk (.im (.pr (.pr .rat (.pr .rat .rat)) .rat) (.p (.p (.n 134217728) (.p (.n 134217728) (.n 134217728))) (.n 134217728)))) (.nil))) (.pre 9 (.frz 90001 true []) (.nil)))))),kcast (by kernel_rfl) (have hd0:=hp0.d0;have hkl:=hp0.kl;I (?_:0<=sf.2.1) (I (?_:sf.2.1.toNat+2<=sf.2.2.2.1.length) (Sp (jv sf.2.2.2.1 t≠0) (λh1=>q6q ((Td h1).1:(0,[],[])=(ja sf t).1) ((Td h1).2:jv sf.2.2.2.1 t=(ja sf t).2)) (λh2=>I (rfl:0=([]:List Rat).length) (I (by(try simp only[q6M,q6N,q6Q])<;>omega:0+sf.2.2.1.length=(([]:List Rat)++sf.2.2.1).length) (I (rfl:([(.dt (.int .i64) (.n 6) sf.1),(.dt (.sl .rat) (.s 16 (.n 6)) (([]:List Rat)++sf.2.2.1))]:List WA)=[(.dt (.int .i64) (.n 6) sf.1),(.dt (.sl .rat) (.s 16 (.n 6)) (([]:List Rat)++sf.2.2.1))]) (I (rfl:([]:List WA)=[]) (I (rfl:0=([]:List ((Rat×Rat×Rat)×Rat)).length) (I (⟨rfl,q7G _⟩:([]:List ((Rat×Rat×Rat)×Rat))=isoP sf t 0/\0<=sf.2.2.2.2.length) (λ(i:Nat)(l:List ((Rat×Rat×Rat)×Rat))(hb3:HB [.s 9 (.nat .i64) (.n 1048576),.ex (gboX 8 90001 [(.dt (.int .i64) (.n 6) sf.1),(.dt (.sl .rat) (.s 16 (.n 6)) (([]:List Rat)++sf.2.2.1))] [] (.pr (.pr .rat (.pr .rat .rat)) .rat) (.p (.p (.n 200000) (.p (.n 200000) (.n 200000))) (.n 200000)) 1048576)] (i,l))(hI:l=isoP sf t i/\i<=sf.2.2.2.2.length)=>have hv6:=(show i<=1048576 from hb3.1);have hv7:=(show l.length<=1048576 from hb3.2.1.1);have hl0:=(show l.length=i by rw[hI.1,Ca]);Sp (i<sf.2.2.2.2.length) (λh4=>I (hp0.sb:Bnd qR bSfl sf) (I (?_:i<sf.2.2.2.2.length) (I (hp0.ev i (by omega):EvC (sf.2.1,sf.2.2.2.1,j3 sf i) t) (I (Ai h2: ¬ivO (sf.2.1,sf.2.2.2.1,j3 sf i).2.1 t) (I (?_:l.length=l.length) (I ((λy hy=>by rw[q70.1 hy];exact hp0.pb i (by omega): ∀x∈[jw (homV (sf.2.1,sf.2.2.2.1,j3 sf i) t)],Bnd (.pr (.pr .rat (.pr .rat .rat)) .rat) (.p (.p (.n 200000) (.p (.n 200000) (.n 200000))) (.n 200000)) x): ∀x∈[jw (homV (sf.2.1,sf.2.2.2.1,j3 sf i) t)],Bnd (.pr (.pr .rat (.pr .rat .rat)) .rat) (.p (.p (.n 200000) (.p (.n 200000) (.n 200000))) (.n 200000)) x) (I (show(i+1)<=1048576 by omega:Bnd (.nat .i64) (.n 1048576) (i+1)) (I (rfl:([(.dt (.int .i64) (.n 6) sf.1),(.dt (.sl .rat) (.s 16 (.n 6)) (([]:List Rat)++sf.2.2.1))]:List WA)=[(.dt (.int .i64) (.n 6) sf.1),(.dt (.sl .rat) (.s 16 (.n 6)) (([]:List Rat)++sf.2.2.1))]) (I (rfl:([]:List WA)=[]) (I (by(try simp only[q6M,q6N,q6Q])<;>omega:l.length+[jw (homV (sf.2.1,sf.2.2.2.1,j3 sf i) t)].length=(l++[jw (homV (sf.2.1,sf.2.2.2.1,j3 sf i) t)]).length) (I (by(try simp only[q6M,q6N,q6Q])<;>omega:l.length+[jw (homV (sf.2.1,sf.2.2.2.1,j3 sf i) t)].length<=1048576) (q6q (⟨q11 hI.1,by omega⟩:l++[jw (homV (sf.2.1,sf.2.2.2.1,j3 sf i) t)]=isoP sf t (i+1)/\(i+1)<=sf.2.2.2.2.length) (?_:sf.2.2.2.2.length-(i+1)<sf.2.2.2.2.length-i))))))))))))) (λh5=>I (?_:l.length=l.length) (q6q ((Te h2 hI.1 h5 hI.2).1:(sf.1,([]:List Rat)++sf.2.2.1,l)=(ja sf t).1) ((Te h2 hI.1 h5 hI.2).2:0=(ja sf t).2)))))))))))))⟩<;>omega)
abbrev q2L:Ctr Tryz.prog:=FI.c q2N
abbrev Xe:FI:=⟨60,[(.pr (.int .i64) (.pr (.int .i64) (.pr (.sl .rat) (.pr (.sl .rat) (.sl (.sl (.pr (.pr .rat (.pr .rat .rat)) .rat))))))),.rat],[(.p (.n 6) (.p (.n 6) (.p (.s 16 (.n 6)) (.p (.s 16 (.n 6)) (.s 16 (.s 16 (.p (.p (.n 12) (.p (.n 12) (.n 12))) (.n 12)))))))),(.n 16384)],λz=>(λ(sf:Int×Int×List Rat×List Rat×List (List ((Rat×Rat×Rat)×Rat)))(t:Rat)=>[Bnd qR bSfl sf,0<sf.2.2.2.2.length,∀i,i<sf.2.2.2.2.length->(j3 sf i).length=(j3 sf 0).length,IsO (qF sf) t]) z.1 z.2,λb z=>(λ(sf:Int×Int×List Rat×List Rat×List (List ((Rat×Rat×Rat)×Rat)))(t:Rat)=> .tup [.agg [.dt AU bIso (ja (qF sf) t).1],.one (.dt (.int .i64) (.n 7) (ja (qF sf) t).2)]) z.1 z.2⟩
theorem Xf:Xe.OK Tryz.prog:=qB hmix 12 Tryz.func60 rfl rfl (by decide) [(114,.c q2L),(115,.c Xo)] (λ(sf:Int×Int×List Rat×List Rat×List (List ((Rat×Rat×Rat)×Rat)))(t:Rat) b hx hp=>LZ (hp _ (by simp))) (λ(sf:Int×Int×List Rat×List Rat×List (List ((Rat×Rat×Rat)×Rat)))(t:Rat) hx hp=>by
 have hp0:Bnd qR bSfl sf:=hp _ (q6W);have hp1:0<sf.2.2.2.2.length:=hp _ (q6V _ (q6W));have hp2: ∀i,i<sf.2.2.2.2.length->(j3 sf i).length=(j3 sf 0).length:=hp _ (q6V _ (q6V _ (q6W)));have hp3:IsO (qF sf) t:=hp _ (q6V _ (q6V _ (q6V _ (q6W))))
 refine⟨.nil,kcast (by kernel_rfl) (I (hp0:Bnd qR bSfl sf) (I (hp1:0<sf.2.2.2.2.length) (I (hp2: ∀i,i<sf.2.2.2.2.length->(j3 sf i).length=(j3 sf 0).length) (I (hp3:IsO (qF sf) t) (q6q (Eq.refl ((ja (qF sf) t).1)) (Eq.refl ((ja (qF sf) t).2)))))))⟩)
abbrev Xd:Ctr Tryz.prog:=FI.c Xf
abbrev Sh:FI:=⟨30,[(.pr (.int .i64) (.pr (.int .i64) (.pr (.sl .rat) (.pr (.sl .rat) (.sl (.sl (.pr (.pr .rat (.pr .rat .rat)) .rat))))))),.rat,.rat],[(.p (.n 6) (.p (.n 6) (.p (.s 16 (.n 6)) (.p (.s 16 (.n 6)) (.s 16 (.s 16 (.p (.p (.n 12) (.p (.n 12) (.n 12))) (.n 12)))))))),(.n 16384),(.n 16384)],λz=>(λ(sf:Int×Int×List Rat×List Rat×List (List ((Rat×Rat×Rat)×Rat)))(t:Rat)(u:Rat)=>[Bnd qR bSfl sf,0<sf.2.2.2.2.length,∀i,i<sf.2.2.2.2.length->(j3 sf i).length=(j3 sf 0).length,IsO (qF sf) t,EvC (ja (qF sf) t).1 u]) z.1 z.2.1 z.2.2,λb z=>(λ(sf:Int×Int×List Rat×List Rat×List (List ((Rat×Rat×Rat)×Rat)))(t:Rat)(u:Rat)=> .tup [.agg [.dt jj (bV3 67108868) (sevV sf t u).1],.one (.dt (.int .i64) (.n 7) (sevV sf t u).2)]) z.1 z.2.1 z.2.2⟩
theorem Si:Sh.OK Tryz.prog:=qB hmix 25 Tryz.func30 rfl rfl (by decide) [(60,.c Xd),(61,.c VE)] (λ(sf:Int×Int×List Rat×List Rat×List (List ((Rat×Rat×Rat)×Rat)))(t:Rat)(u:Rat) b hx hp=>q2I (hp _ (by simp))) (λ(sf:Int×Int×List Rat×List Rat×List (List ((Rat×Rat×Rat)×Rat)))(t:Rat)(u:Rat) hx hp=>by
 have hp0:Bnd qR bSfl sf:=hp _ (q6W);have hp1:0<sf.2.2.2.2.length:=hp _ (q6V _ (q6W));have hp2: ∀i,i<sf.2.2.2.2.length->(j3 sf i).length=(j3 sf 0).length:=hp _ (q6V _ (q6V _ (q6W)));have hp3:IsO (qF sf) t:=hp _ (q6V _ (q6V _ (q6V _ (q6W))));have hp4:EvC (ja (qF sf) t).1 u:=hp _ (q6V _ (q6V _ (q6V _ (q6V _ (q6W)))))
 refine⟨.nil,kcast (by kernel_rfl) (I (hp0:Bnd qR bSfl sf) (I (hp1:0<sf.2.2.2.2.length) (I (hp2: ∀i,i<sf.2.2.2.2.length->(j3 sf i).length=(j3 sf 0).length) (I (hp3:IsO (qF sf) t) (Sp ((ja (qF sf) t).2≠0) (λh1=>q6q ((TC h1).1:(0,0,0)=(sevV sf t u).1) ((TC h1).2:(ja (qF sf) t).2=(sevV sf t u).2)) (λh2=>I (hp4:EvC ((ja (qF sf) t).1) u) (q6q ((TD h2).1:evV ((ja (qF sf) t).1) u=(sevV sf t u).1) ((TD h2).2:jv ((ja (qF sf) t).1).2.1 u=(sevV sf t u).2))))))))⟩)
abbrev Sg:Ctr Tryz.prog:=FI.c Si
end Go.Proofs.YteeamcbonfkjcaaGreat.Sx
