/-
Own laws and walks for the claim, part 6: WMc2, WPt, WTf, WKb4, WMd1, WTg, WTg2, WTg3, WTg4, WTg5, WEx5, WMe1, WMe2, WMd2, WMe3, WTh, WTh2, WEx6, WEx7, WEx8, WEx9, WExA, WTh3, WMf1, WMf2, WMf3. No condition.
-/
import Derived.Test.YtchgnllhbcadpaaGreatF5
namespace Go.Proofs.YtchgnllhbcadpaaGreat.Sx
open Go Go.Proofs
set_option linter.unusedVariables false
set_option linter.unusedSimpArgs false
set_option maxRecDepth 20000
set_option maxHeartbeats 4000000
abbrev QK:FI:=⟨121,[(.sl (.pr .rat (.pr .rat .rat))),(.fn 122)],[(.s 1048576 (.p (.n 1099511627776) (.p (.n 1099511627776) (.n 1099511627776)))),.u],fun _=>[],fun b z=>(fun(l:List (Rat×Rat×Rat))(u:Unit)=> .c (.one (.dt (.sl tV3) (b0 b) l))) z.1 z.2⟩
theorem QL:QK.OK Tryz.prog:=mkF hmix 28 Tryz.func121 rfl rfl (by decide) [(122,.c QQ)] (fun(l:List (Rat×Rat×Rat))(u:Unit) b hx hp=>qa (Bnds.h2 hx).1 rfl) (fun(l:List (Rat×Rat×Rat))(u:Unit) hx hp=>by
 have hl0:l.length≤1048576:=hx.1.1
 refine⟨.cond (.nil) (.h 3 2 (.mk (.arr (.pr .rat (.pr .rat .rat)) (.p (.n 1099511627776) (.p (.n 1099511627776) (.n 1099511627776))))) (.loop [.s 15 (.nat .i64) (.n 1048576),.a 12 (.pr .rat (.pr .rat .rat)) (.p (.n 1099511627776) (.p (.n 1099511627776) (.n 1099511627776)))] (fun((i,out):Nat×List (Rat×Rat×Rat))=>Cpy l out i) (fun((i,out):Nat×List (Rat×Rat×Rat))=>l.length-i) (fun((i,out):Nat×List (Rat×Rat×Rat))=> .cond (.nil) (.pre 999999 (.frz 12 true [4]) (.nil))))),kcast (by kernel_rfl) (And.intro (fun(h1:l=[])=>(by rw[h1]:[]=l)) (I (?_:l.length=l.length) (I (Cpy.start _:Cpy l (List.replicate l.length ((0,(0,0)):Rat×Rat×Rat)) 0) (fun(i:Nat)(out:List (Rat×Rat×Rat))(hb3:HB [.s 15 (.nat .i64) (.n 1048576),.a 12 (.pr .rat (.pr .rat .rat)) (.p (.n 1099511627776) (.p (.n 1099511627776) (.n 1099511627776)))] (i,out))(hI:Cpy l out i)=>have hv6:=(show i≤1048576 from hb3.1);have hIl:=hI.hl;have hIi:=hI.hi;Sp (i<l.length) (fun h4=>I (?_:i<l.length) (I (?_:i<l.length) (I (?_:i<out.length) (I (show(i+1)≤1048576 by omega:Bnd (.nat .i64) (.n 1048576) (i+1)) (And.intro (hI.step _ (by omega):Cpy l (out.set i (l.getD i (0,(0,0)))) (i+1)) (?_:l.length-(i+1)<l.length-i)))))) (fun h5=>I (?_:l.length=out.length) ((hI.fin (by omega):out=l)))))))⟩<;>omega)
abbrev QJ:Ctr Tryz.prog:=FI.c QL
abbrev OA:FI:=⟨56,[(.sl (.pr .rat (.pr .rat .rat)))],[(.s 1048576 (.p (.n 1099511627776) (.p (.n 1099511627776) (.n 1099511627776))))],fun _=>[],fun b z=>(fun(l:List (Rat×Rat×Rat))=> .c (.one (.dt (.sl tV3) (b0 b) l))) z⟩
theorem OB:OA.OK Tryz.prog:=mkF hmix 5 Tryz.func56 rfl rfl (by decide) [(121,.c QJ)] (fun(l:List (Rat×Rat×Rat)) b hx hp=>qa (Bnds.h1 hx) rfl) (fun(l:List (Rat×Rat×Rat)) hx hp=>by
 refine⟨.nil,kcast (by kernel_rfl) ((Eq.refl l))⟩)
abbrev Oz:Ctr Tryz.prog:=FI.c OB
abbrev UG:FI:=⟨125,[(.sl (.pr .rat (.pr .rat .rat)))],[(.s 255 (.p (.n 536870904) (.p (.n 536870904) (.n 536870904))))],fun z=>(fun(l:List (Rat×Rat×Rat))=>[l.length≤12]) z,fun b z=>(fun(l:List (Rat×Rat×Rat))=> .c (.one (.dt (.sl tV3) (.s (b0 b).len (b0 b).e) (zl l)))) z⟩
theorem UH:UG.OK Tryz.prog:=mkF hmix 56 Tryz.func125 rfl rfl (by decide) [(197,.o QU),(198,.s TX),(200,.s Mp),(202,.c NW)] (fun(l:List (Rat×Rat×Rat)) b hx hp=>qa (XM (Bnds.h1 hx)) rfl) (fun(l:List (Rat×Rat×Rat)) hx hp=>by
 have hl0:l.length≤255:=hx.1
 have he0: ∀u∈l,Bnd (.pr .rat (.pr .rat .rat)) (.p (.n 536870904) (.p (.n 536870904) (.n 536870904))) u:=hx.2
 have hp0:l.length≤12:=hp _ (List.mem_cons_self)
 refine⟨.pre 5 (.frz 12 false [0]) (.pre 5 (.ex (rwS 0 (.sl (.pr .rat (.pr .rat .rat))) (.s 255 (.p (.n 536870904) (.p (.n 536870904) (.n 536870904)))) (qj l))) (.loop [.s 19 (.nat .i64) (.n 256),.g 3 90002 (.pr .rat (.pr .rat .rat)) (.p (.n 536870904) (.p (.n 536870904) (.n 536870904))) 255] (fun((i,out):Nat×List (Rat×Rat×Rat))=>out=jm (qj l) i∧i≤(qj l).length) (fun((i,out):Nat×List (Rat×Rat×Rat))=>(qj l).length-i) (fun((i,out):Nat×List (Rat×Rat×Rat))=> .cond (.loop [.s 25 (.nat .i64) (.n 256),.s 6 .bool .u] (fun((k,q):Nat×Bool)=>q=mid2 (qj l) ((qj l).getD i z3) k∧k≤(qj l).length) (fun((k,q):Nat×Bool)=>(qj l).length-k) (fun((k,q):Nat×Bool)=> .cond (.loop [.s 35 (.nat .i64) (.n 256),.s 6 .bool .u] (fun((m,q2):Nat×Bool)=>q2=(mid2 (qj l) ((qj l).getD i z3) k||mid1 (qj l) ((qj l).getD i z3) k m)∧m≤((qj l).drop (k+1)).length) (fun((m,q2):Nat×Bool)=>((qj l).drop (k+1)).length-m) (fun((m,q2):Nat×Bool)=> .nil)) (.cond (.h 19 2 (.mk (.im (.pr .rat (.pr .rat .rat)) (.p (.n 536870904) (.p (.n 536870904) (.n 536870904))))) (.nil)) (.nil)))) (.pre 999999 (.frz 90002 true [2]) (.nil))))),kcast (by kernel_rfl) (I (hp0:l.length≤12) (I (Eq.refl l.length) (I ((HD z3 cpV l).symm:l.length=(jP z3 cpV l).length) (I (by rw[RG];exact Ee:(unqD z3 eqV (jP z3 cpV l)).length≤(unqF z3 eqV (jP z3 cpV l)).length) (I (Pa:(unqF z3 eqV (jP z3 cpV l)).take ((unqD z3 eqV (jP z3 cpV l)).length)=(qj l)) (I (WN (by omega) he0:Bnd (.sl (.pr .rat (.pr .rat .rat))) (.s 255 (.p (.n 536870904) (.p (.n 536870904) (.n 536870904)))) (qj l)) (I (rfl:0=([]:List (Rat×Rat×Rat)).length) (I (⟨rfl,Nat.zero_le _⟩:([]:List (Rat×Rat×Rat))=jm (qj l) 0∧0≤(qj l).length) (fun(i:Nat)(out:List (Rat×Rat×Rat))(hb1:HB [.s 19 (.nat .i64) (.n 256),.g 3 90002 (.pr .rat (.pr .rat .rat)) (.p (.n 536870904) (.p (.n 536870904) (.n 536870904))) 255] (i,out))(hI:out=jm (qj l) i∧i≤(qj l).length)=>have hv16:=(show i≤256 from hb1.1);have hv17:=(show out.length≤255 from hb1.2.1);have hIi:=hI.2;have hol:=(show out.length≤i from by rw[hI.1];exact CO _ _);have hsu:=Dp l;Sp (i<(qj l).length) (fun h2=>I (?_:i<(qj l).length) (I (⟨rfl,Nat.zero_le _⟩:false=mid2 (qj l) ((qj l).getD i z3) 0∧0≤(qj l).length) (fun(k:Nat)(q:Bool)(hb3:HB [.s 25 (.nat .i64) (.n 256),.s 6 .bool .u] (k,q))(hJ:q=mid2 (qj l) ((qj l).getD i z3) k∧k≤(qj l).length)=>have hv14:=(show k≤256 from hb3.1);have hJk:=hJ.2;Sp (k<(qj l).length) (fun h4=>I (?_:k<(qj l).length) (I (?_:k+1≤(qj l).length) (I (⟨by rw[hJ.1];exact(Bool.or_false _).symm,Nat.zero_le _⟩:q=(mid2 (qj l) ((qj l).getD i z3) k||mid1 (qj l) ((qj l).getD i z3) k 0)∧0≤((qj l).drop (k+1)).length) (fun(m:Nat)(q2:Bool)(hb5:HB [.s 35 (.nat .i64) (.n 256),.s 6 .bool .u] (m,q2))(hK:q2=(mid2 (qj l) ((qj l).getD i z3) k||mid1 (qj l) ((qj l).getD i z3) k m)∧m≤((qj l).drop (k+1)).length)=>have hv10:=(show m≤256 from hb5.1);have hKm:=hK.2;have hdl:=(show((qj l).drop (k+1)).length=(qj l).length-(k+1)from List.length_drop);Sp (m<((qj l).drop (k+1)).length) (fun h6=>I (?_:m<((qj l).drop (k+1)).length) (Sp (q2=true) (fun h7=>I (show(m+1)≤256 by omega:Bnd (.nat .i64) (.n 256) (m+1)) (And.intro (⟨YS hK.1 h7,by omega⟩:true=(mid2 (qj l) ((qj l).getD i z3) k||mid1 (qj l) ((qj l).getD i z3) k (m+1))∧(m+1)≤((qj l).drop (k+1)).length) (?_:((qj l).drop (k+1)).length-(m+1)<((qj l).drop (k+1)).length-m))) (fun h8=>I (show(m+1)≤256 by omega:Bnd (.nat .i64) (.n 256) (m+1)) (And.intro (⟨YR hK.1 h8,by omega⟩:(decide (insQ ((qj l).getD k (0,(0,0))) (((qj l).drop (k+1)).getD m (0,(0,0))) ((qj l).getD i (0,(0,0)))))=(mid2 (qj l) ((qj l).getD i z3) k||mid1 (qj l) ((qj l).getD i z3) k (m+1))∧(m+1)≤((qj l).drop (k+1)).length) (?_:((qj l).drop (k+1)).length-(m+1)<((qj l).drop (k+1)).length-m))))) (fun h9=>I (show(k+1)≤256 by omega:Bnd (.nat .i64) (.n 256) (k+1)) (And.intro (⟨YT hK.1 h9 hK.2,by omega⟩:q2=mid2 (qj l) ((qj l).getD i z3) (k+1)∧(k+1)≤(qj l).length) (?_:(qj l).length-(k+1)<(qj l).length-k))))))) (fun h11=>Sp ((!q)=true) (fun h12=>I (?_:out.length=out.length) (I (show(i+1)≤256 by omega:Bnd (.nat .i64) (.n 256) (i+1)) (I (by(try simp only[List.length_append,List.length_cons,List.length_nil])<;>omega:out.length+[(qj l).getD i (0,(0,0))].length=(out++[(qj l).getD i (0,(0,0))]).length) (I (by(try simp only[List.length_append,List.length_cons,List.length_nil])<;>omega:out.length+[(qj l).getD i (0,(0,0))].length≤255) (And.intro (⟨XN hI.1 hJ.1 h11 hJ.2 h12,by omega⟩:(out++[(qj l).getD i (0,(0,0))])=jm (qj l) (i+1)∧(i+1)≤(qj l).length) (?_:(qj l).length-(i+1)<(qj l).length-i)))))) (fun h13=>I (show(i+1)≤256 by omega:Bnd (.nat .i64) (.n 256) (i+1)) (I (?_:out.length=out.length) (And.intro (⟨XO hI.1 hJ.1 h11 hJ.2 h13,by omega⟩:out=jm (qj l) (i+1)∧(i+1)≤(qj l).length) (?_:(qj l).length-(i+1)<(qj l).length-i)))))))) (fun h15=>I (?_:out.length=out.length) ((PN hI.1 (by omega) hI.2:out=zl l))))))))))))⟩<;>omega)
abbrev UF:Ctr Tryz.prog:=FI.c UH
abbrev UD:FI:=⟨57,[(.pr (.pr .rat (.pr .rat .rat)) (.pr (.pr .rat (.pr .rat .rat)) (.pr .rat (.pr .rat .rat)))),(.pr (.pr .rat (.pr .rat .rat)) (.pr (.pr .rat (.pr .rat .rat)) (.pr .rat (.pr .rat .rat))))],[(.p (.p (.n 64) (.p (.n 64) (.n 64))) (.p (.p (.n 64) (.p (.n 64) (.n 64))) (.p (.n 64) (.p (.n 64) (.n 64))))),(.p (.p (.n 64) (.p (.n 64) (.n 64))) (.p (.p (.n 64) (.p (.n 64) (.n 64))) (.p (.n 64) (.p (.n 64) (.n 64)))))],fun z=>(fun(a:(Rat×Rat×Rat)×(Rat×Rat×Rat)×Rat×Rat×Rat)(b_:(Rat×Rat×Rat)×(Rat×Rat×Rat)×Rat×Rat×Rat)=>[Bnd tT3 (bT3 64) a,Bnd tT3 (bT3 64) b_,(qb a b_).length≤12]) z.1 z.2,fun b z=>(fun(a:(Rat×Rat×Rat)×(Rat×Rat×Rat)×Rat×Rat×Rat)(b_:(Rat×Rat×Rat)×(Rat×Rat×Rat)×Rat×Rat×Rat)=> .c (.one (.dt (.sl tV3) (.s 96 (bV3 41000)) (qv a b_)))) z.1 z.2⟩
theorem UE:UD.OK Tryz.prog:=mkF hmix 41 Tryz.func57 rfl rfl (by decide) [(67,.c Gr),(68,.c Hv),(70,.c G4),(123,.c Vt),(124,.c Zv),(125,.c UF)] (fun(a:(Rat×Rat×Rat)×(Rat×Rat×Rat)×Rat×Rat×Rat)(b_:(Rat×Rat×Rat)×(Rat×Rat×Rat)×Rat×Rat×Rat) b hx hp=>Ew (Nat.le_refl _) (hp _ List.mem_cons_self) (hp _ (List.mem_cons_of_mem _ List.mem_cons_self))) (fun(a:(Rat×Rat×Rat)×(Rat×Rat×Rat)×Rat×Rat×Rat)(b_:(Rat×Rat×Rat)×(Rat×Rat×Rat)×Rat×Rat×Rat) hx hp=>by
 have hp2:(qb a b_).length≤12:=hp _ (List.mem_cons_of_mem _ (List.mem_cons_of_mem _ (List.mem_cons_self)))
 refine⟨.cond (.nil) (.cond (.nil) (.pre 4 (.ex (frzP 2 (.pr (.pr .rat (.pr .rat .rat)) (.pr (.pr .rat (.pr .rat .rat)) (.pr .rat (.pr .rat .rat)))) (.p (.p (.n 64) (.p (.n 64) (.n 64))) (.p (.p (.n 64) (.p (.n 64) (.n 64))) (.p (.n 64) (.p (.n 64) (.n 64))))) [2])) (.h 4 0 (.ext (vu (.pr .rat (.pr .rat .rat)) (.p (.n 64) (.p (.n 64) (.n 64))))) (.nil)))),kcast (by kernel_rfl) (Sp (decide (qz a=(0,0,0))=true) (fun h1=>((if_pos (.inl (yd h1))).symm:[]=qv a b_)) (fun h2=>Sp (decide (qz b_=(0,0,0))=true) (fun h3=>((if_pos (.inr (yd h3))).symm:[]=qv a b_)) (fun h4=>I (hp2:(qC (upP (qd b_) b_.2.2 b_.1) (qC (upP (qd b_) b_.2.1 b_.2.2) (qC (upP (qd b_) b_.1 b_.2.1) (qC (oppP (qd b_)) (qC (qd b_) [a.1,a.2.1,a.2.2]))))).length≤12) (((if_neg (not_or.2 ⟨yd' h2,yd' h4⟩)).symm:zl (qC (upP (qd b_) b_.2.2 b_.1) (qC (upP (qd b_) b_.2.1 b_.2.2) (qC (upP (qd b_) b_.1 b_.2.1) (qC (oppP (qd b_)) (qC (qd b_) [a.1,a.2.1,a.2.2])))))=qv a b_)))))⟩)
abbrev L8:Ctr Tryz.prog:=FI.c UE
abbrev Uy:FI:=⟨13,[(.pr (.pr .rat (.pr .rat .rat)) (.pr (.pr .rat (.pr .rat .rat)) (.pr .rat (.pr .rat .rat)))),(.pr (.pr .rat (.pr .rat .rat)) (.pr (.pr .rat (.pr .rat .rat)) (.pr .rat (.pr .rat .rat))))],[(.p (.p (.n 64) (.p (.n 64) (.n 64))) (.p (.p (.n 64) (.p (.n 64) (.n 64))) (.p (.n 64) (.p (.n 64) (.n 64))))),(.p (.p (.n 64) (.p (.n 64) (.n 64))) (.p (.p (.n 64) (.p (.n 64) (.n 64))) (.p (.n 64) (.p (.n 64) (.n 64)))))],fun z=>(fun(a:(Rat×Rat×Rat)×(Rat×Rat×Rat)×Rat×Rat×Rat)(b_:(Rat×Rat×Rat)×(Rat×Rat×Rat)×Rat×Rat×Rat)=>[Bnd tT3 (bT3 64) a,Bnd tT3 (bT3 64) b_,(qb a b_).length≤12]) z.1 z.2,fun b z=>(fun(a:(Rat×Rat×Rat)×(Rat×Rat×Rat)×Rat×Rat×Rat)(b_:(Rat×Rat×Rat)×(Rat×Rat×Rat)×Rat×Rat×Rat)=> .c (.one (.dt (.sl tV3) (.s 96 (bV3 41000)) (qv a b_)))) z.1 z.2⟩
theorem Uz:Uy.OK Tryz.prog:=mkF hmix 9 Tryz.func13 rfl rfl (by decide) [(56,.c Oz),(57,.c L8)] (fun(a:(Rat×Rat×Rat)×(Rat×Rat×Rat)×Rat×Rat×Rat)(b_:(Rat×Rat×Rat)×(Rat×Rat×Rat)×Rat×Rat×Rat) b hx hp=>Ew (Nat.le_refl _) (hp _ List.mem_cons_self) (hp _ (List.mem_cons_of_mem _ List.mem_cons_self))) (fun(a:(Rat×Rat×Rat)×(Rat×Rat×Rat)×Rat×Rat×Rat)(b_:(Rat×Rat×Rat)×(Rat×Rat×Rat)×Rat×Rat×Rat) hx hp=>by
 have hp0:Bnd tT3 (bT3 64) a:=hp _ (List.mem_cons_self)
 have hp1:Bnd tT3 (bT3 64) b_:=hp _ (List.mem_cons_of_mem _ (List.mem_cons_self))
 have hp2:(qb a b_).length≤12:=hp _ (List.mem_cons_of_mem _ (List.mem_cons_of_mem _ (List.mem_cons_self)))
 refine⟨.nil,kcast (by kernel_rfl) (I (hp0:Bnd tT3 (bT3 64) a) (I (hp1:Bnd tT3 (bT3 64) b_) (I (hp2:(qb a b_).length≤12) ((Eq.refl (qv a b_))))))⟩)
abbrev Ux:Ctr Tryz.prog:=FI.c Uz
theorem JB{s:Dice}{b:Bd}(h:Bnd js (.p b.l (.n (max b.r.nb b.l.len))) s):Bnd js (.p b.l (.n (max b.r.nb b.l.len))) (j7 s):=by
 unfold j7;exact A7 (b:=b) (A7 (b:=b) (A7 (b:=b) h))
def chkR(x:Rat):Bool:=decide (x.num.natAbs<1024∧x.den<1024)
def chkV(p:V3):Bool:=chkR p.1&&chkR p.2.1&&chkR p.2.2
theorem Iu{x:Rat}(h:chkR x=true):Bnd .rat (.n 64) x:=by
 have h:=of_decide_eq_true h
 refine⟨Nat.lt_of_lt_of_le h.1 ?_,Nat.le_trans (Nat.le_of_lt h.2) ?_⟩<;>exact Nat.pow_le_pow_right (n:=2) (by decide) (show 10≤64 by decide)
theorem Iv{p:V3}(h:chkV p=true):Bnd tV3 (bV3 64) p:=by
 unfold chkV at h;simp only[Bool.and_eq_true]at h
 exact⟨Iu h.1.1,Iu h.1.2,Iu h.2⟩
theorem HH{t:T3}(h:(chkV t.1&&chkV t.2.1&&chkV t.2.2)=true):Bnd tT3 (bT3 64) t:=by
 simp only[Bool.and_eq_true]at h
 exact⟨Iv h.1.1,Iv h.1.2,Iv h.2⟩
abbrev UU:FI:=⟨10,[],[],fun _=>[],fun b z=> .c (.one (.dt .bool .u true))⟩
theorem UV:UU.OK Tryz.prog:=mkF hmix 39 Tryz.func10 rfl rfl (by decide) [(13,.c Ux),(17,.c TB),(29,.c Ga),(30,.c LF),(54,.c XR),(55,.c Aw)] (fun  b hx hp=>qa trivial rfl) (fun  hx hp=>by
 refine⟨.cond (.cond (.cond (.nil) (.dead)) (.dead)) (.dead),kcast (by kernel_rfl) (have hqa:=(show(qv ((((0:Int):Rat),((0:Int):Rat),((0:Int):Rat)),(((1:Int):Rat),((0:Int):Rat),((0:Int):Rat)),(((0:Int):Rat),((1:Int):Rat),((0:Int):Rat))) ((((1:Int):Rat),((0:Int):Rat),((0:Int):Rat)),(((0:Int):Rat),((0:Int):Rat),((0:Int):Rat)),(((0:Int):Rat),((0:Int):Rat),((1:Int):Rat)))).length=2 from by decide+kernel);have hqb:=(show(qv ((((0:Int):Rat),((0:Int):Rat),((0:Int):Rat)),(((1:Int):Rat),((0:Int):Rat),((0:Int):Rat)),(((0:Int):Rat),((1:Int):Rat),((0:Int):Rat))) ((((1:Int):Rat),((0:Int):Rat),((0:Int):Rat)),(((0:Int):Rat),((0:Int):Rat),((0:Int):Rat)),(((0:Int):Rat),((0:Int):Rat),((1:Int):Rat)))).getD 0 (0,0,0)=(((0:Int):Rat),((0:Int):Rat),((0:Int):Rat))from by decide+kernel);have hqc:=(show(qv ((((0:Int):Rat),((0:Int):Rat),((0:Int):Rat)),(((1:Int):Rat),((0:Int):Rat),((0:Int):Rat)),(((0:Int):Rat),((1:Int):Rat),((0:Int):Rat))) ((((1:Int):Rat),((0:Int):Rat),((0:Int):Rat)),(((0:Int):Rat),((0:Int):Rat),((0:Int):Rat)),(((0:Int):Rat),((0:Int):Rat),((1:Int):Rat)))).getD 1 (0,0,0)=(((1:Int):Rat),((0:Int):Rat),((0:Int):Rat))from by decide+kernel);have hqd:=(show vm ((((0:Int):Rat),((0:Int):Rat),((0:Int):Rat)),(((1:Int):Rat),((0:Int):Rat),((0:Int):Rat)),(((0:Int):Rat),((1:Int):Rat),((0:Int):Rat))) (((0:Int):Rat),((0:Int):Rat),((2:Int):Rat))=((4:Int):Rat)from by decide+kernel);I (HH (by decide+kernel):Bnd tT3 (bT3 64) ((((0:Int):Rat),((0:Int):Rat),((0:Int):Rat)),(((1:Int):Rat),((0:Int):Rat),((0:Int):Rat)),((0:Int):Rat),((1:Int):Rat),((0:Int):Rat))) (I (HH (by decide+kernel):Bnd tT3 (bT3 64) ((((1:Int):Rat),((0:Int):Rat),((0:Int):Rat)),(((0:Int):Rat),((0:Int):Rat),((0:Int):Rat)),((0:Int):Rat),((0:Int):Rat),((1:Int):Rat))) (I (by decide+kernel:(qb ((((0:Int):Rat),((0:Int):Rat),((0:Int):Rat)),(((1:Int):Rat),((0:Int):Rat),((0:Int):Rat)),((0:Int):Rat),((1:Int):Rat),((0:Int):Rat)) ((((1:Int):Rat),((0:Int):Rat),((0:Int):Rat)),(((0:Int):Rat),((0:Int):Rat),((0:Int):Rat)),((0:Int):Rat),((0:Int):Rat),((1:Int):Rat))).length≤12) (Sp ((qv ((((0:Int):Rat),((0:Int):Rat),((0:Int):Rat)),(((1:Int):Rat),((0:Int):Rat),((0:Int):Rat)),((0:Int):Rat),((1:Int):Rat),((0:Int):Rat)) ((((1:Int):Rat),((0:Int):Rat),((0:Int):Rat)),(((0:Int):Rat),((0:Int):Rat),((0:Int):Rat)),((0:Int):Rat),((0:Int):Rat),((1:Int):Rat))).length=2) (fun h1=>I (?_:0<(qv ((((0:Int):Rat),((0:Int):Rat),((0:Int):Rat)),(((1:Int):Rat),((0:Int):Rat),((0:Int):Rat)),((0:Int):Rat),((1:Int):Rat),((0:Int):Rat)) ((((1:Int):Rat),((0:Int):Rat),((0:Int):Rat)),(((0:Int):Rat),((0:Int):Rat),((0:Int):Rat)),((0:Int):Rat),((0:Int):Rat),((1:Int):Rat))).length) (Sp (decide (((qv ((((0:Int):Rat),((0:Int):Rat),((0:Int):Rat)),(((1:Int):Rat),((0:Int):Rat),((0:Int):Rat)),((0:Int):Rat),((1:Int):Rat),((0:Int):Rat)) ((((1:Int):Rat),((0:Int):Rat),((0:Int):Rat)),(((0:Int):Rat),((0:Int):Rat),((0:Int):Rat)),((0:Int):Rat),((0:Int):Rat),((1:Int):Rat))).getD 0 (0,(0,0)))=(((0:Int):Rat),((0:Int):Rat),((0:Int):Rat)))=true) (fun h2=>I (?_:1<(qv ((((0:Int):Rat),((0:Int):Rat),((0:Int):Rat)),(((1:Int):Rat),((0:Int):Rat),((0:Int):Rat)),((0:Int):Rat),((1:Int):Rat),((0:Int):Rat)) ((((1:Int):Rat),((0:Int):Rat),((0:Int):Rat)),(((0:Int):Rat),((0:Int):Rat),((0:Int):Rat)),((0:Int):Rat),((0:Int):Rat),((1:Int):Rat))).length) (Sp (decide (((qv ((((0:Int):Rat),((0:Int):Rat),((0:Int):Rat)),(((1:Int):Rat),((0:Int):Rat),((0:Int):Rat)),((0:Int):Rat),((1:Int):Rat),((0:Int):Rat)) ((((1:Int):Rat),((0:Int):Rat),((0:Int):Rat)),(((0:Int):Rat),((0:Int):Rat),((0:Int):Rat)),((0:Int):Rat),((0:Int):Rat),((1:Int):Rat))).getD 1 (0,(0,0)))=(((1:Int):Rat),((0:Int):Rat),((0:Int):Rat)))=true) (fun h3=>(decide_eq_true hqd:decide ((vm ((((0:Int):Rat),((0:Int):Rat),((0:Int):Rat)),(((1:Int):Rat),((0:Int):Rat),((0:Int):Rat)),((0:Int):Rat),((1:Int):Rat),((0:Int):Rat)) (((0:Int):Rat),((0:Int):Rat),((2:Int):Rat)))=((4:Int):Rat))=true)) (fun h4=>(h4 (decide_eq_true hqc):False)))) (fun h5=>(h5 (decide_eq_true hqb):False)))) (fun h6=>(h6 hqa:False))))))⟩<;>omega)
abbrev UT:Ctr Tryz.prog:=FI.c UV
section
def lcQ(c:Rat)(q:V3×Rat)(d:Rat)(r:V3×Rat)(e:Rat):V3×Rat:=(addV (qI c q.1) (qI d r.1),c*q.2+d*r.2-e)
theorem wR(c:Rat)(q:V3×Rat)(d:Rat)(r:V3×Rat)(e:Rat)(p:V3):valP (lcQ c q d r e) p=c*valP q p+d*valP r p+e:=by
 obtain⟨⟨a1,a2,a3⟩,a4⟩:=q;obtain⟨⟨b1,b2,b3⟩,b4⟩:=r;obtain⟨p1,p2,p3⟩:=p
 simp only[valP,lcQ,addV,qI,dotQ];grind
def ngQ(q:V3×Rat):V3×Rat:=lcQ (-1) q 0 q 0
theorem jq(q:V3×Rat)(p:V3):valP (ngQ q) p= -valP q p:=by unfold ngQ;rw[wR];grind
theorem Ef(q:V3×Rat)(a b:V3)(t:Rat):valP q (onS a b t)=valP q a+t*(valP q b-valP q a):=by
 obtain⟨⟨a1,a2,a3⟩,a4⟩:=q;obtain⟨b1,b2,b3⟩:=b;obtain⟨p1,p2,p3⟩:=a
 simp only[valP,onS,addV,qI,subV,dotQ];grind
theorem RJ{q:V3×Rat}{p:V3}:(cmpQ (dotQ q.1 p) q.2≤0↔valP q p≤0):=by rw[DB];unfold valP;grind
theorem Pd{q:V3×Rat}{a b:V3}:cmpQ (dotQ q.1 a) q.2*cmpQ (dotQ q.1 b) q.2<0↔(valP q a<0∧0<valP q b)∨(0<valP q a∧valP q b<0):=by
 unfold valP cmpQ
 (repeat' split)<;>grind
section
variable (l:List V3)
def wq(i:Nat):V3:=l.getD (i%l.length) z3
def plc(i:Nat)(t:Rat):V3:=onS (wq l i) (wq l (i+1)) t
end
def PLt(p s:Nat×Rat):Prop:=p.1<s.1∨(p.1=s.1∧p.2<s.2)
def QC(l:List V3):Prop:= ∀q:V3×Rat,∀i j k m:Nat,i<j→j<k→k<m→m<l.length→
 ¬(0<valP q (l.getD i z3)∧valP q (l.getD j z3)<0∧0<valP q (l.getD k z3)∧valP q (l.getD m z3)<0)
section
variable {l:List V3} {q:V3×Rat}
theorem z6{i:Nat}(h:i<l.length):wq l i=l.getD i z3:=by unfold wq;rw[Nat.mod_eq_of_lt h]
theorem wq_n:wq l l.length=wq l 0:=by unfold wq;rw[Nat.mod_self,Nat.zero_mod]
def vtx(l:List V3)(q:V3×Rat)(i:Nat):Nat:=if 0<valP q (wq l i)then i else i+1
theorem JM(i:Nat):vtx l q i≤i+1∧i≤vtx l q i:=by unfold vtx;split<;>omega
theorem Ae{i:Nat}{t:Rat}(h:0<valP q (plc l i t))(h0:0≤t)(h1:t<1):0<valP q (wq l (vtx l q i)):=by
 unfold vtx;split
 ·assumption
 ·rename_i hn
  unfold plc at h;rw[Ef]at h
  have:=Rat.mul_nonneg (show 0≤1-t by grind) (show 0≤ -valP q (wq l i) by grind)
  by_cases hb:0<valP q (wq l (i+1))
  ·exact hb
  ·have:=Rat.mul_nonneg h0 (show 0≤ -valP q (wq l (i+1)) by grind)
   grind
theorem JN{i j:Nat}{t s:Rat}(h:0<valP q (plc l i t))(k:valP q (plc l j s)<0)(h0:0≤t)(h1:t<1)(k0:0≤s)(k1:s<1)(hl:PLt (i,t) (j,s)):vtx l q i<vtx l (ngQ q) j:=by
 have p1:=Ae h h0 h1
 have p2:0<valP (ngQ q) (wq l (vtx l (ngQ q) j)):=Ae (by rw[jq];grind) k0 k1
 have a1:=JM (l:=l) (q:=q) i;have a2:=JM (l:=l) (q:=ngQ q) j
 have hne:vtx l q i≠vtx l (ngQ q) j:=fun e=>by rw[←e,jq]at p2;grind
 rcases hl with hl|⟨hl,ht⟩
 ·simp only at hl;omega
 ·simp only at hl ht
  subst hl
  unfold plc at h k;rw[Ef]at h k
  generalize hA:valP q (wq l i)=A at*;generalize hB:valP q (wq l (i+1))=B at*
  have hd:B<A:=by
   rcases Rat.le_total (a:=A) (b:=B)with e|e
   ·have:=Rat.mul_nonneg (show 0≤s-t by grind) (show 0≤B-A by grind);grind
   ·by_cases e2:A=B
    ·subst e2;grind
    ·grind
  have:=Rat.mul_nonneg h0 (show 0≤A-B by grind)
  have hp:0<A:=by grind
  have e1:vtx l q i=i:=by unfold vtx;rw[hA,if_pos hp]
  omega
theorem ng2(p:V3):valP (ngQ (ngQ q)) p=valP q p:=by rw[jq,jq];grind
theorem Xe(i:Nat):vtx l (ngQ (ngQ q)) i=vtx l q i:=by unfold vtx;rw[ng2]
theorem pqc(h:QC l)(q:V3×Rat){i1 i2 i3 i4:Nat}{t1 t2 t3 t4:Rat}(b1:0≤t1∧t1<1)(b2:0≤t2∧t2<1)(b3:0≤t3∧t3<1)(b4:0≤t4∧t4<1)(hn:i4<l.length)
  (h12:PLt (i1,t1) (i2,t2))(h23:PLt (i2,t2) (i3,t3))(h34:PLt (i3,t3) (i4,t4)):
  ¬(0<valP q (plc l i1 t1)∧valP q (plc l i2 t2)<0∧0<valP q (plc l i3 t3)∧valP q (plc l i4 t4)<0):=by
 rintro⟨f1,f2,f3,f4⟩
 have v12:=JN f1 f2 b1.1 b1.2 b2.1 b2.2 h12
 have v23:=JN (q:=ngQ q) (l:=l) (by rw[jq];grind) (by rw[jq];grind) b2.1 b2.2 b3.1 b3.2 h23
 rw[Xe]at v23
 have v34:=JN f3 f4 b3.1 b3.2 b4.1 b4.2 h34
 have p1:=Ae f1 b1.1 b1.2
 have p2:0<valP (ngQ q) (wq l (vtx l (ngQ q) i2)):=Ae (by rw[jq];grind) b2.1 b2.2
 have p3:=Ae f3 b3.1 b3.2
 have p4:0<valP (ngQ q) (wq l (vtx l (ngQ q) i4)):=Ae (by rw[jq];grind) b4.1 b4.2
 have a4:=JM (l:=l) (q:=ngQ q) i4
 generalize vtx l q i1=v1 at*;generalize vtx l (ngQ q) i2=v2 at*;generalize vtx l q i3=v3 at*;generalize vtx l (ngQ q) i4=v4 at*
 by_cases hv:v4<l.length
 ·rw[z6 (by omega)]at p1 p2 p3 p4
  rw[jq]at p2 p4
  exact h q v1 v2 v3 v4 v12 v23 v34 hv ⟨p1,by grind,p3,by grind⟩
 ·have e:v4=l.length:=by omega
  rw[e,wq_n,z6 (by omega)]at p4
  have h0:v1≠0:=fun e=>by subst e;rw[z6 (by omega)]at p1;rw[jq]at p4;grind
  rw[z6 (by omega)]at p1 p2 p3
  exact h (ngQ q) 0 v1 v2 v3 (by omega) v12 v23 (by omega) ⟨p4,by rw[jq];grind,p2,by rw[jq];grind⟩
end
section
variable (h:V3×Rat) (l:List V3)
def ctQ(i:Nat):Rat:=valP h (wq l i)/(valP h (wq l i) -valP h (wq l (i+1)))
def posA(i:Nat):List (Nat×Rat):=
 (if valP h (wq l i)≤0 then[(i,0)]else[])++(if(valP h (wq l i)<0∧0<valP h (wq l (i+1)))∨(0<valP h (wq l i)∧valP h (wq l (i+1))<0)then[(i,ctQ h l i)]else[])
def posN:Nat→List (Nat×Rat)
 |0=>[]
 |i+1=>posN i++posA h l i
end
section
variable {h:V3×Rat} {l:List V3}
theorem N9{i:Nat}(hi:i<l.length):zV h l i=(posA h l i).map fun p=>plc l p.1 p.2:=by
 unfold zV posA
 have e1:l.getD i z3=wq l i:=(z6 hi).symm
 have e2:l.getD ((i+1)%l.length) z3=wq l (i+1):=rfl
 rw[e1,e2]
 simp only[RJ,Pd]
 rw[List.map_append]
 congr 1
 ·split
  ·show[wq l i]=[plc l i 0];unfold plc;rw[I6]
  ·rfl
 ·split
  ·rfl
  ·rfl
theorem wG: ∀{i},i≤l.length→qR h l i=(posN h l i).map fun p=>plc l p.1 p.2
 |0,_=>rfl
 |i+1,hi=>by rw[qR,posN,List.map_append,wG (by omega),N9 (by omega)]
theorem ct_b{i:Nat}(hc:(valP h (wq l i)<0∧0<valP h (wq l (i+1)))∨(0<valP h (wq l i)∧valP h (wq l (i+1))<0)):0<ctQ h l i∧ctQ h l i<1∧valP h (plc l i (ctQ h l i))=0:=by
 unfold plc;rw[Ef];unfold ctQ
 generalize valP h (wq l i)=A at*;generalize valP h (wq l (i+1))=B at*
 have e:=div_eq (x:=A) (y:=A-B) (by grind)
 generalize A/(A-B)=t at*
 have h3:A+t*(B-A)=0:=by grind
 refine⟨?_,?_,h3⟩
 ·rcases Rat.le_total (a:=t) (b:=0)with q|q
  ·rcases hc with hc|hc
   ·have:=Rat.mul_nonneg (show 0≤ -t by grind) (show 0≤B-A by grind);grind
   ·have:=Rat.mul_nonneg (show 0≤ -t by grind) (show 0≤A-B by grind);grind
  ·by_cases e0:t=0
   ·subst e0;grind
   ·grind
 ·rcases Rat.le_total (a:=1) (b:=t)with q|q
  ·rcases hc with hc|hc
   ·have:=Rat.mul_nonneg (show 0≤t-1 by grind) (show 0≤B-A by grind);grind
   ·have:=Rat.mul_nonneg (show 0≤t-1 by grind) (show 0≤A-B by grind);grind
  ·by_cases e0:t=1
   ·subst e0;grind
   ·grind
theorem Jn{i:Nat}{p:Nat×Rat}(hp:p∈posA h l i):p.1=i∧0≤p.2∧p.2<1∧valP h (plc l p.1 p.2)≤0:=by
 unfold posA at hp
 rcases List.mem_append.1 hp with hp|hp
 ·split at hp
  ·rw[List.mem_singleton.1 hp]
   refine⟨rfl,Rat.le_refl,by simp only;grind,?_⟩
   simp only;unfold plc;rw[I6];assumption
  ·cases hp
 ·split at hp
  ·rename_i hc
   have:=ct_b hc
   rw[List.mem_singleton.1 hp]
   exact⟨rfl,by simp only;grind,this.2.1,by simp only;rw[this.2.2];exact Rat.le_refl⟩
  ·cases hp
theorem zK{p:Nat×Rat}: ∀{n},p∈posN h l n→p.1<n∧0≤p.2∧p.2<1∧valP h (plc l p.1 p.2)≤0
 |0,hp=>by cases hp
 |n+1,hp=>by
  rcases List.mem_append.1 hp with hp|hp
  ·have:=zK hp;exact⟨by omega,this.2⟩
  ·have:=Jn hp;exact⟨by omega,this.2⟩
theorem Ld: ∀n,(posN h l n).Pairwise PLt
 |0=>List.Pairwise.nil
 |n+1=>by
  rw[posN,List.pairwise_append]
  refine⟨Ld n,?_,fun a ha b hb=> .inl ?_⟩
  ·unfold posA
   split
   ·split
    ·rename_i hc
     have:=ct_b hc
     simp only[List.cons_append,List.nil_append,List.pairwise_cons,List.mem_singleton,forall_eq]
     exact⟨.inr ⟨rfl,this.1⟩,by simp⟩
    ·simp
   ·split<;>simp
  ·rw[(Jn hb).1];exact(zK ha).1
theorem C7{i:Nat}{f:Nat×Rat→V3}{ps:List (Nat×Rat)}(hi:i<ps.length):(ps.map f).getD i z3=f ps[i]:=by
 rw[List.getD_eq_getElem?_getD,List.getElem?_map,List.getElem?_eq_getElem hi];rfl
theorem QC.clip(hq:QC l):QC (qC h l):=by
 intro q i j k m hij hjk hkm hm
 unfold qC at hm⊢
 rw[wG (Nat.le_refl _)]at hm⊢
 rw[List.length_map]at hm
 rw[C7 (by omega),C7 (by omega),C7 (by omega),C7 (by omega)]
 have pw:=List.pairwise_iff_getElem.1 (Ld (h:=h) (l:=l) l.length)
 have m1:=zK (List.getElem_mem (show i<(posN h l l.length).length by omega))
 have m2:=zK (List.getElem_mem (show j<(posN h l l.length).length by omega))
 have m3:=zK (List.getElem_mem (show k<(posN h l l.length).length by omega))
 have m4:=zK (List.getElem_mem hm)
 exact pqc hq q ⟨m1.2.1,m1.2.2.1⟩ ⟨m2.2.1,m2.2.2.1⟩ ⟨m3.2.1,m3.2.2.1⟩ ⟨m4.2.1,m4.2.2.1⟩ m4.1 (pw i j _ _ hij) (pw j k _ _ hjk) (pw k m _ _ hkm)
theorem QC.tri(a b c:V3):QC [a,b,c]:=fun q i j k m h1 h2 h3 h4=>by simp at h4;omega
end
end
section
def Hl(l:List V3)(x:V3):Prop:= ∀q:V3×Rat,(∀p∈l,valP q p≤0)→valP q x≤0
theorem Hl.mem{l:List V3}{x:V3}(h:x∈l):Hl l x:=fun q hq=>hq x h
theorem Hl.trans{l l':List V3}{x:V3}(h:Hl l x)(k: ∀p∈l,Hl l' p):Hl l' x:=fun q hq=>h q fun p hp=>k p hp q hq
section
variable {h:V3×Rat} {l:List V3}
theorem Pq{i:Nat}(hl:0<l.length):wq l i∈l:=by
 have:=Nat.mod_lt i hl
 unfold wq;rw[qE this];exact List.getElem_mem _
theorem ZF{f:V3×Rat}{i:Nat}{t:Rat}(hl:0<l.length)(hf: ∀p∈l,valP f p≤0)(h0:0≤t)(h1:t<1):valP f (plc l i t)≤0:=by
 unfold plc;rw[Ef]
 have a:=hf _ (Pq (i:=i) hl);have b:=hf _ (Pq (i:=i+1) hl)
 have:=Rat.mul_nonneg h0 (show 0≤ -valP f (wq l (i+1)) by grind)
 have:=Rat.mul_nonneg (show 0≤1-t by grind) (show 0≤ -valP f (wq l i) by grind)
 grind
theorem Iw{p:V3}(hp:p∈qC h l): ∃i t,i<l.length∧0≤t∧t<1∧p=plc l i t∧valP h p≤0:=by
 unfold qC at hp
 rw[wG (Nat.le_refl _)]at hp
 obtain⟨a,ha,rfl⟩:=List.mem_map.1 hp
 have:=zK ha
 exact⟨a.1,a.2,this.1,this.2.1,this.2.2.1,rfl,this.2.2.2⟩
theorem Hl.clip_sub{x:V3}(hx:Hl (qC h l) x):Hl l x∧valP h x≤0:=by
 refine⟨fun f hf=>hx f fun p hp=>?_,hx h fun p hp=>?_⟩
 ·obtain⟨i,t,h1,h2,h3,rfl,_⟩:=Iw hp
  exact ZF (by omega) hf h2 h3
 ·obtain⟨i,t,h1,h2,h3,_,h4⟩:=Iw hp;exact h4
theorem Lc{i:Nat}{p:Nat×Rat}(hp:p∈posA h l i): ∀{n},i<n→p∈posN h l n
 |n+1,hn=>by
  by_cases e:i=n
  ·subst e;exact List.mem_append_right _ hp
  ·exact List.mem_append_left _ (Lc hp (by omega))
theorem KC{i:Nat}{p:Nat×Rat}(hp:p∈posA h l i)(hi:i<l.length):plc l p.1 p.2∈qC h l:=by
 unfold qC
 rw[wG (Nat.le_refl _)]
 exact List.mem_map.2 ⟨p,Lc hp hi,rfl⟩
theorem E6(i:Nat):plc l i 0=wq l i:=I6 _ _
theorem Ev{i:Nat}(hi:i<l.length)(hv:valP h (wq l i)≤0):wq l i∈qC h l:=by
 have:=KC (h:=h) (l:=l) (i:=i) (p:=(i,0)) (by unfold posA;rw[if_pos hv];simp) hi
 rwa [E6]at this
theorem ivt(s:Nat→Rat){a:Nat}: ∀{b:Nat},a<b→s a<0→0<s b→ ∃k,a≤k∧k<b∧((s k<0∧0<s (k+1))∨(a<k∧s k=0))
 |0,h,_,_=>by omega
 |b+1,hab,ha,hb=>by
  by_cases h1:s b<0
  ·exact⟨b,by omega,by omega,.inl ⟨h1,hb⟩⟩
  ·by_cases h2:s b=0
   ·have:a≠b:=fun e=>by subst e;grind
    exact⟨b,by omega,by omega,.inr ⟨by omega,h2⟩⟩
   ·have:a≠b:=fun e=>by subst e;grind
    obtain⟨k,k1,k2,k3⟩:=ivt s (b:=b) (by omega) ha (by grind)
    exact⟨k,k1,by omega,k3⟩
theorem zpos{f:V3×Rat}(hf: ∀p∈qC h l,valP f p≤0){a b:Nat}(hab:a<b)(hb:b≤l.length)
  (hs:(valP h (wq l a)<0∧0<valP h (wq l b))∨(0<valP h (wq l a)∧valP h (wq l b)<0)):
  ∃k t,a≤k∧k<b∧0≤t∧t<1∧PLt (a,0) (k,t)∧valP h (plc l k t)=0∧valP f (plc l k t)≤0:=by
 have key: ∃k,a≤k∧k<b∧(((valP h (wq l k)<0∧0<valP h (wq l (k+1)))∨(0<valP h (wq l k)∧valP h (wq l (k+1))<0))∨(a<k∧valP h (wq l k)=0)):=by
  rcases hs with⟨h1,h2⟩|⟨h1,h2⟩
  ·obtain⟨k,k1,k2,k3⟩:=ivt (fun k=>valP h (wq l k)) hab h1 h2
   rcases k3 with k3|k3
   ·exact⟨k,k1,k2,.inl (.inl k3)⟩
   ·exact⟨k,k1,k2,.inr k3⟩
  ·obtain⟨k,k1,k2,k3⟩:=ivt (fun k=> -valP h (wq l k)) hab (show-valP h (wq l a)<0 by grind) (show 0< -valP h (wq l b) by grind)
   rcases k3 with k3|k3
   ·exact⟨k,k1,k2,.inl (.inr ⟨by grind,by grind⟩)⟩
   ·exact⟨k,k1,k2,.inr ⟨k3.1,by grind⟩⟩
 obtain⟨k,k1,k2,k3⟩:=key
 rcases k3 with k3|⟨k3,k4⟩
 ·have c:=ct_b k3
  refine⟨k,ctQ h l k,k1,k2,by grind,c.2.1,?_,c.2.2,hf _ (KC (p:=(k,ctQ h l k)) (by unfold posA;rw[if_pos k3];simp) (by omega))⟩
  by_cases e:a=k
  ·exact .inr ⟨e,c.1⟩
  ·exact .inl (show a<k by omega)
 ·refine⟨k,0,k1,k2,Rat.le_refl,by grind,.inl k3,by rw[E6];exact k4,?_⟩
  rw[E6];exact hf _ (Ev (by omega) (by rw[k4];exact Rat.le_refl))
theorem P9(hq:QC l){f:V3×Rat}(hf: ∀p∈qC h l,valP f p≤0){a b:Nat}(ha:a<l.length)(hb:b<l.length)(h1:valP h (wq l a)<0)(h2:0<valP h (wq l b)):
  valP f (wq l b)* -valP h (wq l a)+valP f (wq l a)*valP h (wq l b)≤0:=by
 rcases Rat.le_total (a:=valP f (wq l b)* -valP h (wq l a)+valP f (wq l a)*valP h (wq l b)) (b:=0)with q|q
 ·exact q
 ·by_cases q0:valP f (wq l b)* -valP h (wq l a)+valP f (wq l a)*valP h (wq l b)=0
  ·rw[q0];exact Rat.le_refl
  ·exfalso
   have hD:0<valP f (wq l b)* -valP h (wq l a)+valP f (wq l a)*valP h (wq l b):=by grind
   generalize hDD:valP f (wq l b)* -valP h (wq l a)+valP f (wq l a)*valP h (wq l b)=D at*
   --the function that is positive at both corners and negative where the plane is crossed
   generalize hg:lcQ (2*(-valP h (wq l a)+valP h (wq l b))) f (2*(valP f (wq l a) -valP f (wq l b))) h (-D)=g
   have ga:0<valP g (wq l a):=by rw[←hg,wR];grind
   have gb:0<valP g (wq l b):=by rw[←hg,wR];grind
   have gz: ∀p,valP h p=0→valP f p≤0→valP g p<0:=fun p p1 p2=>by
    rw[←hg,wR,p1]
    have:=Rat.mul_nonneg (show 0≤2*(-valP h (wq l a)+valP h (wq l b)) by grind) (show 0≤ -valP f p by grind)
    grind
   have z01:(0:Rat)≤0∧(0:Rat)<1:=⟨Rat.le_refl,by grind⟩
   have ga0:0<valP g (plc l a 0):=by rw[E6];exact ga
   have gb0:0<valP g (plc l b 0):=by rw[E6];exact gb
   have alt1:=fun(i1 i2 i3 i4:Nat)(t1 t2 t3 t4:Rat) b1 b2 b3 b4 hn h12 h23 h34=>pqc hq g (i1:=i1) (i2:=i2) (i3:=i3) (i4:=i4) (t1:=t1) (t2:=t2) (t3:=t3) (t4:=t4) b1 b2 b3 b4 hn h12 h23 h34
   have alt2:=fun(i1 i2 i3 i4:Nat)(t1 t2 t3 t4:Rat) b1 b2 b3 b4 hn h12 h23 h34=>pqc hq (ngQ g) (i1:=i1) (i2:=i2) (i3:=i3) (i4:=i4) (t1:=t1) (t2:=t2) (t3:=t3) (t4:=t4) b1 b2 b3 b4 hn h12 h23 h34
   have ngn: ∀p,valP g p<0→0<valP (ngQ g) p:=fun p hp=>by rw[jq];grind
   have ngp: ∀p,0<valP g p→valP (ngQ g) p<0:=fun p hp=>by rw[jq];grind
   have hne:a≠b:=fun e=>by subst e;grind
   have v0:valP h (wq l 0)<0∨valP h (wq l 0)=0∨0<valP h (wq l 0):=by grind
   have gz0:valP h (wq l 0)=0→valP g (plc l 0 0)<0:=fun e=>by
    rw[E6];exact gz _ e (hf _ (Ev (by omega) (by rw[e];exact Rat.le_refl)))
   rcases Nat.lt_or_gt_of_ne hne with hab|hab
   ·obtain⟨k,t,k1,k2,k3,k4,k5,k6,k7⟩:=zpos hf hab (by omega) (.inl ⟨h1,h2⟩)
    have gx:=gz _ k6 k7
    rcases v0 with v|v|v
    ·obtain⟨k',t',m1,m2,m3,m4,m5,m6,m7⟩:=zpos hf hb (Nat.le_refl _) (.inr ⟨h2,by rw[wq_n];exact v⟩)
     exact alt1 a k b k' 0 t 0 t' z01 ⟨k3,k4⟩ z01 ⟨m3,m4⟩ m2 k5 (.inl k2) m5 ⟨ga0,gx,gb0,gz _ m6 m7⟩
    ·have:a≠0:=fun e=>by subst e;grind
     exact alt2 0 a k b 0 0 t 0 z01 z01 ⟨k3,k4⟩ z01 hb (.inl (show 0<a by omega)) k5 (.inl k2) ⟨ngn _ (gz0 v),ngp _ ga0,ngn _ gx,ngp _ gb0⟩
    ·have:a≠0:=fun e=>by subst e;grind
     obtain⟨k',t',m1,m2,m3,m4,m5,m6,m7⟩:=zpos hf (show 0<a by omega) (by omega) (.inr ⟨v,h1⟩)
     exact alt2 k' a k b t' 0 t 0 ⟨m3,m4⟩ z01 ⟨k3,k4⟩ z01 hb (.inl m2) k5 (.inl k2) ⟨ngn _ (gz _ m6 m7),ngp _ ga0,ngn _ gx,ngp _ gb0⟩
   ·obtain⟨k,t,k1,k2,k3,k4,k5,k6,k7⟩:=zpos hf hab (by omega) (.inr ⟨h2,h1⟩)
    have gx:=gz _ k6 k7
    rcases v0 with v|v|v
    ·have:b≠0:=fun e=>by subst e;grind
     obtain⟨k',t',m1,m2,m3,m4,m5,m6,m7⟩:=zpos hf (show 0<b by omega) (by omega) (.inl ⟨v,h2⟩)
     exact alt2 k' b k a t' 0 t 0 ⟨m3,m4⟩ z01 ⟨k3,k4⟩ z01 ha (.inl m2) k5 (.inl k2) ⟨ngn _ (gz _ m6 m7),ngp _ gb0,ngn _ gx,ngp _ ga0⟩
    ·have:b≠0:=fun e=>by subst e;grind
     exact alt2 0 b k a 0 0 t 0 z01 z01 ⟨k3,k4⟩ z01 ha (.inl (show 0<b by omega)) k5 (.inl k2) ⟨ngn _ (gz0 v),ngp _ gb0,ngn _ gx,ngp _ ga0⟩
    ·obtain⟨k',t',m1,m2,m3,m4,m5,m6,m7⟩:=zpos hf ha (Nat.le_refl _) (.inl ⟨h1,by rw[wq_n];exact v⟩)
     exact alt1 b k a k' 0 t 0 t' z01 ⟨k3,k4⟩ z01 ⟨m3,m4⟩ m2 k5 (.inl k2) m5 ⟨gb0,gx,ga0,gz _ m6 m7⟩
theorem slope(f:V3×Rat): ∀l':List V3,∃c:Rat,0≤c∧(∀p∈l',0<valP h p→valP f p≤c*valP h p)∧(c=0∨ ∃o∈l',0<valP h o∧valP f o=c*valP h o)
 |[]=>⟨0,Rat.le_refl,(fun p hp=>by cases hp),.inl rfl⟩
 |p::r=>by
  obtain⟨c,c0,c1,c2⟩:=slope f r
  by_cases hp:0<valP h p∧c*valP h p<valP f p
  ·have e:=div_eq (x:=valP f p) (y:=valP h p) (by grind)
   generalize valP f p/valP h p=d at e
   have hcd:c≤d:=by
    rcases Rat.le_total (a:=c) (b:=d)with q|q
    ·exact q
    ·have:=Rat.mul_nonneg (show 0≤c-d by grind) (Rat.le_of_lt hp.1);grind
   refine⟨d,by grind,fun u hu hv=>?_,.inr ⟨p,List.mem_cons_self,hp.1,by grind⟩⟩
   rcases List.mem_cons.1 hu with rfl|hu
   ·grind
   ·have:=c1 u hu hv
    have:=Rat.mul_nonneg (show 0≤d-c by grind) (Rat.le_of_lt hv);grind
  ·refine⟨c,c0,fun u hu hv=>?_,?_⟩
   ·rcases List.mem_cons.1 hu with rfl|hu
    ·grind
    ·exact c1 u hu hv
   ·rcases c2 with c2|⟨o,o1,o2⟩
    ·exact .inl c2
    ·exact .inr ⟨o,List.mem_cons_of_mem _ o1,o2⟩
theorem NS{p:V3}(hp:p∈l): ∃i,i<l.length∧p=wq l i:=by
 obtain⟨i,hi,e⟩:=List.getElem_of_mem hp
 exact⟨i,hi,by rw[z6 hi,qE hi,e]⟩
theorem Hl.clip_sup(hq:QC l){x:V3}(hx:Hl l x)(hv:valP h x≤0):Hl (qC h l) x:=by
 intro f hf
 obtain⟨c,c0,c1,c2⟩:=slope (h:=h) f l
 have hall: ∀p∈l,valP (lcQ 1 f (-c) h 0) p≤0:=by
  intro p hp
  rw[wR]
  obtain⟨i,hi,rfl⟩:=NS hp
  by_cases h1:0<valP h (wq l i)
  ·have:=c1 _ hp h1;grind
  ·have hfi:=hf _ (Ev hi (by grind))
   rcases c2 with rfl|⟨o,o1,o2,o3⟩
   ·grind
   ·by_cases h0:valP h (wq l i)=0
    ·rw[h0];grind
    ·obtain⟨j,hj,rfl⟩:=NS o1
     have k:=P9 hq hf hi hj (by grind) o2
     rw[o3]at k
     rcases Rat.le_total (a:=valP f (wq l i) -c*valP h (wq l i)) (b:=0)with q|q
     ·grind
     ·have h3:=Rat.mul_nonneg q (Rat.le_of_lt o2)
      have h4:(valP f (wq l i) -c*valP h (wq l i))*valP h (wq l j)=0:=by grind
      rcases Rat.mul_eq_zero.1 h4 with h5|h5<;>grind
 have:=hx _ hall
 rw[wR]at this
 have:=Rat.mul_nonneg c0 (show 0≤ -valP h x by grind)
 grind
end
end
section
section
variable (h:V3×Rat) (l:List V3)
def isX(i:Nat):Prop:=(valP h (wq l i)<0∧0<valP h (wq l (i+1)))∨(0<valP h (wq l i)∧valP h (wq l (i+1))<0)
instance(i:Nat):Decidable (isX h l i):=by unfold isX;infer_instance
def cX:Nat→Nat
 |0=>0
 |n+1=>cX n+if isX h l n then 1 else 0
def cI:Nat→Nat
 |0=>0
 |n+1=>cI n+if valP h (wq l n)≤0 then 1 else 0
end
section
variable {h:V3×Rat} {l:List V3}
theorem Jo: ∀n,(posN h l n).length=cI h l n+cX h l n
 |0=>rfl
 |n+1=>by
  rw[posN,List.length_append,Jo n,cI,cX]
  have:(posA h l n).length=(if valP h (wq l n)≤0 then 1 else 0)+if isX h l n then 1 else 0:=by
   unfold posA
   rw[List.length_append]
   congr 1
   ·split<;>rfl
   ·by_cases e:isX h l n
    ·exact(congrArg List.length (if_pos e)).trans (if_pos e).symm
    ·exact(congrArg List.length (if_neg e)).trans (if_neg e).symm
  omega
theorem LS: ∀n,cI h l n≤n
 |0=>Nat.le_refl 0
 |n+1=>by have:=LS n;rw[cI];split<;>omega
theorem Sc{i:Nat}(hi:0<valP h (wq l i)): ∀{n},i<n→cI h l n+1≤n
 |n+1,hn=>by
  rw[cI]
  by_cases e:i=n
  ·subst e
   have:=LS (h:=h) (l:=l) i
   rw[if_neg (by grind)];omega
  ·have:=Sc hi (n:=n) (by omega)
   split<;>omega
theorem Fe{m:Nat}: ∀{n},m+1≤cX h l n→ ∃k,k<n∧isX h l k∧m≤cX h l k
 |0,hn=>by simp[cX]at hn
 |n+1,hn=>by
  rw[cX]at hn
  by_cases e:isX h l n
  ·rw[if_pos e]at hn;exact⟨n,by omega,e,by omega⟩
  ·rw[if_neg e]at hn
   obtain⟨k,a,b,c⟩:=Fe (n:=n) (by omega)
   exact⟨k,by omega,b,c⟩
theorem no3(hq:QC l){i j k:Nat}(hij:i<j)(hjk:j<k)(hk:k<l.length)(xi:isX h l i)(xj:isX h l j)(xk:isX h l k):False:=by
 have Q: ∀a b c d,a<b→b<c→c<d→d<l.length→0<valP h (wq l a)→valP h (wq l b)<0→0<valP h (wq l c)→valP h (wq l d)<0→False:=fun a b c d h1 h2 h3 h4=>by
  rw[z6 (by omega),z6 (by omega),z6 (by omega),z6 (by omega)]
  exact fun p1 p2 p3 p4=>hq h a b c d h1 h2 h3 h4 ⟨p1,p2,p3,p4⟩
 have R: ∀a b c d,a<b→b<c→c<d→d<l.length→valP h (wq l a)<0→0<valP h (wq l b)→valP h (wq l c)<0→0<valP h (wq l d)→False:=fun a b c d h1 h2 h3 h4=>by
  rw[z6 (by omega),z6 (by omega),z6 (by omega),z6 (by omega)]
  exact fun p1 p2 p3 p4=>hq (ngQ h) a b c d h1 h2 h3 h4 ⟨by rw[jq];grind,by rw[jq];grind,by rw[jq];grind,by rw[jq];grind⟩
 have ne: ∀a b,valP h (wq l a)<0→0<valP h (wq l b)→a≠b:=fun a b p1 p2 e=>by subst e;grind
 have nx:k+1<l.length∨wq l (k+1)=wq l 0:=by
  by_cases e:k+1<l.length
  ·exact .inl e
  ·right;rw[show k+1=l.length by omega,wq_n]
 unfold isX at xi xj xk
 rcases xi with⟨i1,i2⟩|⟨i1,i2⟩<;>rcases xj with⟨j1,j2⟩|⟨j1,j2⟩
 ·have:=ne j (i+1) j1 i2
  exact R i (i+1) j (j+1) (by omega) (by omega) (by omega) (by omega) i1 i2 j1 j2
 ·rcases xk with⟨k1,k2⟩|⟨k1,k2⟩
  ·rcases nx with e|e
   ·exact R i j k (k+1) hij hjk (by omega) e i1 j1 k1 k2
   ·rw[e]at k2
    have:=ne i 0 i1 k2
    exact Q 0 i j k (by omega) hij hjk hk k2 i1 j1 k1
  ·have:=ne (j+1) k j2 k1
   rcases nx with e|e
   ·exact Q j (j+1) k (k+1) (by omega) (by omega) (by omega) e j1 j2 k1 k2
   ·rw[e]at k2
    exact R 0 j (j+1) k (by omega) (by omega) (by omega) hk k2 j1 j2 k1
 ·rcases xk with⟨k1,k2⟩|⟨k1,k2⟩
  ·have:=ne k (j+1) k1 j2
   rcases nx with e|e
   ·exact R j (j+1) k (k+1) (by omega) (by omega) (by omega) e j1 j2 k1 k2
   ·rw[e]at k2
    exact Q 0 j (j+1) k (by omega) (by omega) (by omega) hk k2 j1 j2 k1
  ·rcases nx with e|e
   ·exact Q i j k (k+1) hij hjk (by omega) e i1 j1 k1 k2
   ·rw[e]at k2
    have:=ne 0 i k2 i1
    exact R 0 i j k (by omega) hij hjk hk k2 i1 j1 k1
 ·have:=ne (i+1) j i2 j1
  exact Q i (i+1) j (j+1) (by omega) (by omega) (by omega) (by omega) i1 i2 j1 j2
theorem QC.len(hq:QC l):(qC h l).length≤l.length+1:=by
 unfold qC
 rw[wG (Nat.le_refl _),List.length_map,Jo]
 have h1:=LS (h:=h) (l:=l) l.length
 have h2:cX h l l.length≤2:=by
  apply Nat.le_of_not_lt;intro h3
  obtain⟨k,k1,k2,k3⟩:=Fe (m:=2) h3
  obtain⟨j,j1,j2,j3⟩:=Fe (m:=1) k3
  obtain⟨i,i1,i2,_⟩:=Fe (m:=0) j3
  exact no3 hq i1 j1 k1 i2 j2 k2
 rcases Nat.eq_zero_or_pos (cX h l l.length)with e|e
 ·omega
 ·obtain⟨k,k1,k2,_⟩:=Fe (m:=0) e
  have: ∃i,i<l.length∧0<valP h (wq l i):=by
   rcases k2 with⟨a,b⟩|⟨a,b⟩
   ·by_cases e:k+1<l.length
    ·exact⟨k+1,e,b⟩
    ·exact⟨0,by omega,by rw[←wq_n,show l.length=k+1 by omega];exact b⟩
   ·exact⟨k,k1,a⟩
  obtain⟨i,i1,i2⟩:=this
  have:=Sc i2 i1
  omega
end
theorem Ab(q:V3×Rat)(p:V3):valP (oppP q) p= -valP q p:=by
 obtain⟨⟨a1,a2,a3⟩,a4⟩:=q;obtain⟨p1,p2,p3⟩:=p
 have e:((-1:Int):Rat)= -1:=rfl
 simp only[valP,oppP,qI,dotQ,e];grind
def lsT(t:T3):List V3:=[t.1,t.2.1,t.2.2]
def inT(t:T3)(x:V3):Prop:=valP (qd t) x=0∧valP (upP (qd t) t.1 t.2.1) x≤0∧valP (upP (qd t) t.2.1 t.2.2) x≤0∧valP (upP (qd t) t.2.2 t.1) x≤0
theorem CX{N a b p:V3}{d:Rat}: ¬jO N a b p↔valP (upP (N,d) a b) p≤0:=by unfold jO valP upP;grind
theorem Tv{x y:V3}(h:d2 x y=0):x=y:=by
 have e:=Ey h
 obtain⟨x1,x2,x3⟩:=x;obtain⟨y1,y2,y3⟩:=y
 simp only[subV,Prod.mk.injEq]at e⊢
 exact⟨by grind,by grind,by grind⟩
theorem Qa{t:T3}{x:V3}(hN:qz t≠(0,0,0))(hx:inT t x): ∃u v:Rat,0≤u∧0≤v∧u+v≤1∧x=addV t.1 (addV (qI u (subV t.2.1 t.1)) (qI v (subV t.2.2 t.1))):=by
 obtain⟨h0,h1,h2,h3⟩:=hx
 have f0:=CX.2 h1;have f1:=CX.2 h2;have f2:=CX.2 h3
 unfold qz at f0 f1 f2
 rw[Y9,tri1]at f0;rw[Ya,tri1,tri2,lagr]at f1;rw[Yb,tri2]at f2
 have hK:=lagr (subV t.2.1 t.1) (subV t.2.2 t.1)
 have hK0:0<dotQ (qz t) (qz t):=by
  have a:=Fk (qz t);have b:dotQ (qz t) (qz t)≠0:=fun e=>hN (Ey e);grind
 have hd:dotQ (qc (subV t.2.1 t.1) (subV t.2.2 t.1)) (subV x t.1)=0:=by rw[Bs];exact h0
 have hG:=gramd (subV t.2.1 t.1) (subV t.2.2 t.1) (subV x t.1)
 rw[hd]at hG
 unfold qz at hK0
 rw[hK]at hK0
 have hz: ∀u v:Rat,d2 x (addV t.1 (addV (qI u (subV t.2.1 t.1)) (qI v (subV t.2.2 t.1))))=0→x=addV t.1 (addV (qI u (subV t.2.1 t.1)) (qI v (subV t.2.2 t.1))):=fun u v e=>by
  exact Tv e
 simp only[q21]at hz
 generalize dotQ (subV x t.1) (subV t.2.1 t.1)=a at*;generalize dotQ (subV x t.1) (subV t.2.2 t.1)=b at*;generalize dotQ (subV x t.1) (subV x t.1)=c at*
 generalize dotQ (subV t.2.1 t.1) (subV t.2.1 t.1)=E at*;generalize dotQ (subV t.2.1 t.1) (subV t.2.2 t.1)=F at*;generalize dotQ (subV t.2.2 t.1) (subV t.2.2 t.1)=G at*
 have eA:=div_eq (x:=G*a-F*b) (show E*G-F*F≠0 by grind)
 have eB:=div_eq (x:=E*b-F*a) (show E*G-F*F≠0 by grind)
 have hid:=ZE (c:=c) (a:=a) (b:=b) (E:=E) (F:=F) (G:=G) ((G*a-F*b)/(E*G-F*F)) ((E*b-F*a)/(E*G-F*F)) rfl rfl
 have nA:0≤(G*a-F*b)/(E*G-F*F):=Br (by grind) hK0
 have nB:0≤(E*b-F*a)/(E*G-F*F):=Br (by grind) hK0
 generalize(G*a-F*b)/(E*G-F*F)=A at*;generalize(E*b-F*a)/(E*G-F*F)=B at*
 refine⟨A,B,nA,nB,?_,hz A B ?_⟩
 ·have:=Ms (x:=1-(A+B)) hK0 (by grind)
  grind
 ·generalize hKK:E*G-F*F=K at*
  have h9:K*(K*phi E F G a b c A B)=0:=by grind
  rcases Rat.mul_eq_zero.1 h9 with h9|h9
  ·grind
  ·rcases Rat.mul_eq_zero.1 h9 with h9|h9<;>grind
theorem RI(q:V3×Rat)(a b c:V3)(u v:Rat):valP q (addV a (addV (qI u (subV b a)) (qI v (subV c a))))=(1-u-v)*valP q a+u*valP q b+v*valP q c:=by
 obtain⟨⟨q1,q2,q3⟩,q4⟩:=q;obtain⟨a1,a2,a3⟩:=a;obtain⟨b1,b2,b3⟩:=b;obtain⟨c1,c2,c3⟩:=c
 simp only[valP,addV,qI,subV,dotQ];grind
theorem up_a(q:V3×Rat)(a b:V3):valP (upP q a b) a=0:=by unfold valP upP;grind
theorem MI(q:V3×Rat)(a b:V3):valP (upP q a b) b=0:=by
 obtain⟨⟨q1,q2,q3⟩,q4⟩:=q;obtain⟨a1,a2,a3⟩:=a;obtain⟨b1,b2,b3⟩:=b
 simp only[valP,upP,qc,subV,dotQ];grind
theorem up_c(a b c:V3)(d:Rat):valP (upP (qc (subV b a) (subV c a),d) a b) c= -dotQ (qc (subV b a) (subV c a)) (qc (subV b a) (subV c a)):=by
 obtain⟨a1,a2,a3⟩:=a;obtain⟨b1,b2,b3⟩:=b;obtain⟨c1,c2,c3⟩:=c
 simp only[valP,upP,qc,subV,dotQ];grind
theorem q2e(a b c:V3)(d:Rat):valP (upP (qc (subV b a) (subV c a),d) b c) a= -dotQ (qc (subV b a) (subV c a)) (qc (subV b a) (subV c a)):=by
 obtain⟨a1,a2,a3⟩:=a;obtain⟨b1,b2,b3⟩:=b;obtain⟨c1,c2,c3⟩:=c
 simp only[valP,upP,qc,subV,dotQ];grind
theorem q2f(a b c:V3)(d:Rat):valP (upP (qc (subV b a) (subV c a),d) c a) b= -dotQ (qc (subV b a) (subV c a)) (qc (subV b a) (subV c a)):=by
 obtain⟨a1,a2,a3⟩:=a;obtain⟨b1,b2,b3⟩:=b;obtain⟨c1,c2,c3⟩:=c
 simp only[valP,upP,qc,subV,dotQ];grind
theorem pl_0(a b c:V3):valP (qd (a,b,c)) a=0∧valP (qd (a,b,c)) b=0∧valP (qd (a,b,c)) c=0:=by
 obtain⟨a1,a2,a3⟩:=a;obtain⟨b1,b2,b3⟩:=b;obtain⟨c1,c2,c3⟩:=c
 simp only[valP,qd,qz,qc,subV,dotQ];grind
theorem Ui{t:T3}{x:V3}(hN:qz t≠(0,0,0)):inT t x↔Hl (lsT t) x:=by
 constructor
 ·intro h
  obtain⟨u,v,hu,hv,h1,rfl⟩:=Qa hN h
  intro q hq
  rw[RI]
  have a:=hq t.1 (by simp[lsT]);have b:=hq t.2.1 (by simp[lsT]);have c:=hq t.2.2 (by simp[lsT])
  have:=Rat.mul_nonneg (show 0≤1-u-v by grind) (show 0≤ -valP q t.1 by grind)
  have:=Rat.mul_nonneg hu (show 0≤ -valP q t.2.1 by grind)
  have:=Rat.mul_nonneg hv (show 0≤ -valP q t.2.2 by grind)
  grind
 ·intro h
  obtain⟨a,b,c⟩:=t
  have K:=Fk (qc (subV b a) (subV c a))
  have p:=pl_0 a b c
  have all: ∀q:V3×Rat,valP q a≤0→valP q b≤0→valP q c≤0→valP q x≤0:=fun q h1 h2 h3=>h q fun y hy=>by
   simp only[lsT,List.mem_cons,List.not_mem_nil,or_false]at hy
   rcases hy with rfl|rfl|rfl<;>assumption
  refine⟨?_,all _ ?_ ?_ ?_,all _ ?_ ?_ ?_,all _ ?_ ?_ ?_⟩
  ·have h1:=all (qd (a,b,c)) (by grind) (by grind) (by grind)
   have h2:=all (oppP (qd (a,b,c))) (by rw[Ab];grind) (by rw[Ab];grind) (by rw[Ab];grind)
   rw[Ab]at h2;grind
  ·rw[up_a];exact Rat.le_refl
  ·rw[MI];exact Rat.le_refl
  ·show valP (upP (qc (subV b a) (subV c a),_) a b) c≤0;rw[up_c];grind
  ·show valP (upP (qc (subV b a) (subV c a),_) b c) a≤0;rw[q2e];grind
  ·rw[up_a];exact Rat.le_refl
  ·rw[MI];exact Rat.le_refl
  ·rw[MI];exact Rat.le_refl
  ·show valP (upP (qc (subV b a) (subV c a),_) c a) b≤0;rw[q2f];grind
  ·rw[up_a];exact Rat.le_refl
theorem BV(a b:T3):QC (qb a b)∧(qb a b).length≤8:=by
 have q0:=QC.tri a.1 a.2.1 a.2.2
 have l1:=q0.len (h:=qd b)
 have q1:=q0.clip (h:=qd b)
 have l2:=q1.len (h:=oppP (qd b))
 have q2:=q1.clip (h:=oppP (qd b))
 have l3:=q2.len (h:=upP (qd b) b.1 b.2.1)
 have q3:=q2.clip (h:=upP (qd b) b.1 b.2.1)
 have l4:=q3.len (h:=upP (qd b) b.2.1 b.2.2)
 have q4:=q3.clip (h:=upP (qd b) b.2.1 b.2.2)
 have l5:=q4.len (h:=upP (qd b) b.2.2 b.1)
 refine⟨q4.clip,?_⟩
 unfold qb
 simp only[List.length_cons,List.length_nil]at l1
 omega
theorem PH{a b:T3}(hb:qz b≠(0,0,0)){x:V3}:Hl (qb a b) x↔Hl (lsT a) x∧Hl (lsT b) x:=by
 rw[←Ui hb]
 have q0:=QC.tri a.1 a.2.1 a.2.2
 have q1:=q0.clip (h:=qd b)
 have q2:=q1.clip (h:=oppP (qd b))
 have q3:=q2.clip (h:=upP (qd b) b.1 b.2.1)
 have q4:=q3.clip (h:=upP (qd b) b.2.1 b.2.2)
 constructor
 ·intro h
  obtain⟨h,s3⟩:=h.clip_sub
  obtain⟨h,s2⟩:=h.clip_sub
  obtain⟨h,s1⟩:=h.clip_sub
  obtain⟨h,o⟩:=h.clip_sub
  obtain⟨h,p⟩:=h.clip_sub
  rw[Ab]at o
  exact⟨h,by grind,s1,s2,s3⟩
 ·rintro⟨h,p,s1,s2,s3⟩
  have h1:=Hl.clip_sup q0 (h:=qd b) h (by grind)
  have h2:=Hl.clip_sup q1 (h:=oppP (qd b)) h1 (by rw[Ab];grind)
  have h3:=Hl.clip_sup q2 h2 s1
  have h4:=Hl.clip_sup q3 h3 s2
  exact Hl.clip_sup q4 h4 s3
end
def Srt(l:List V3):Prop:=l.Pairwise fun p q=>cpV p q<0
theorem IB{p q r:V3}(h:cpV p q<0)(k:cpV q r<0):cpV p r<0:=by rw[CT]at*;grind
theorem DD{p:V3}: ¬cpV p p<0:=by rw[CT];grind
theorem KG{p q:V3}(h: ¬cpV p q<0)(n:p≠q):cpV q p<0:=by
 rw[CT]at*;rw[ne_eq,wQ]at n;grind
theorem XP{p q r:V3}(h: ¬cpV q p<0)(k: ¬cpV r q<0): ¬cpV r p<0:=by rw[CT]at*;grind
theorem LA: ∀{l m:List V3},Srt l→Srt m→(∀x,x∈l↔x∈m)→l=m
 |[],[],_,_,_=>rfl
 |[],b::m,_,_,h=>by have:=(h b).2 List.mem_cons_self;cases this
 |a::l,[],_,_,h=>by have:=(h a).1 List.mem_cons_self;cases this
 |a::l,b::m,hl,hm,h=>by
  obtain⟨h1,h2⟩:=List.pairwise_cons.1 hl
  obtain⟨k1,k2⟩:=List.pairwise_cons.1 hm
  have e:a=b:=by
   rcases List.mem_cons.1 ((h a).1 List.mem_cons_self)with e|e
   ·exact e
   ·rcases List.mem_cons.1 ((h b).2 List.mem_cons_self)with e2|e2
    ·exact e2.symm
    ·exact absurd (IB (h1 b e2) (k1 a e)) DD
  subst e
  have:l=m:=LA h2 k2 fun x=>by
   constructor
   ·intro hx
    rcases List.mem_cons.1 ((h x).1 (List.mem_cons_of_mem _ hx))with e|e
    ·subst e;exact absurd (h1 x hx) DD
    ·exact e
   ·intro hx
    rcases List.mem_cons.1 ((h x).2 (List.mem_cons_of_mem _ hx))with e|e
    ·subst e;exact absurd (k1 x hx) DD
    ·exact e
  rw[this]
theorem Lf{x:V3}{p:List V3}: ∀{n k},posR z3 cpV x p n≤k→k<n→cpV x (p.getD k z3)<0
 |0,k,_,h=>absurd h (Nat.not_lt_zero _)
 |n+1,k,h,hk=>by
  unfold posR at h;split at h
  ·rename_i hc
   by_cases e:k=n
   ·subst e;exact hc
   ·exact Lf h (by omega)
  ·omega
theorem Lg{x:V3}{p:List V3}: ∀{n},0<posR z3 cpV x p n→ ¬cpV x (p.getD (posR z3 cpV x p n-1) z3)<0
 |0,h=>absurd h (Nat.lt_irrefl _)
 |n+1,h=>by
  unfold posR at h⊢;split
  ·rename_i hc;rw[if_pos hc]at h;exact Lg h
  ·rename_i hc;exact hc
theorem KU{R:V3→V3→Prop}(tr: ∀{p q r},R p q→R q r→R p r){x:V3}{p:List V3}(hp:p.Pairwise R)(h1: ∀y∈p,cpV x y<0→R x y)(h2: ∀y∈p,¬cpV x y<0→R y x):(insR z3 cpV x p).Pairwise R:=by
 have hr:=GH z3 cpV x p p.length
 have hhi:=fun k=>Lf (x:=x) (p:=p) (n:=p.length) (k:=k)
 have hlo:=Lg (x:=x) (p:=p) (n:=p.length)
 unfold insR
 generalize posR z3 cpV x p p.length=r at*
 have hs:=hp
 rw[←List.take_append_drop r p,List.pairwise_append]at hs
 obtain⟨s1,s2,s3⟩:=hs
 have up: ∀y∈p.drop r,R x y:=fun y hy=>by
  obtain⟨k,hk,e⟩:=List.getElem_of_mem hy
  rw[List.getElem_drop]at e
  rw[List.length_drop]at hk
  refine h1 y (List.mem_of_mem_drop hy) ?_
  have:=hhi (r+k) (by omega) (by omega)
  rw[qE (by omega),e]at this;exact this
 have lo: ∀y∈p.take r,R y x:=fun y hy=>by
  obtain⟨k,hk,e⟩:=List.getElem_of_mem hy
  rw[List.length_take]at hk
  rw[List.getElem_take]at e
  have h0:=hlo (by omega)
  rw[qE (by omega)]at h0
  have hl:=h2 _ (List.getElem_mem (l:=p) (n:=r-1) (by omega)) h0
  by_cases e2:k=r-1
  ·subst e2;rw[e]at hl;exact hl
  ·exact tr (e▸List.pairwise_iff_getElem.1 hp k (r-1) (by omega) (by omega) (by omega)) hl
 rw[List.pairwise_append,List.pairwise_cons]
 refine⟨s1,⟨up,s2⟩,fun a ha b hb=>?_⟩
 rcases List.mem_cons.1 hb with rfl|hb
 ·exact lo a ha
 ·exact s3 a ha b hb
def Wrt(l:List V3):Prop:=l.Pairwise fun p q=> ¬cpV q p<0
theorem GS{l:List V3}: ∀n,Wrt (jC z3 cpV l n)
 |0=>List.Pairwise.nil
 |n+1=>KU (R:=fun p q=> ¬cpV q p<0) (fun a b=>XP a b) (GS n) (fun y _ h k=>absurd (IB h k) DD) (fun y _ h=>h)
theorem JG{l:List V3}(hw:Wrt l): ∀n,n≤l.length→Srt (unqN z3 eqV l n)∧(∀x,x∈unqN z3 eqV l n↔x∈l.take n)
 |0,_=>⟨List.Pairwise.nil,fun x=>by simp[unqN]⟩
 |n+1,hn=>by
  obtain⟨h1,h2⟩:=JG hw n (by omega)
  rw[unqN,jW (d:=z3) (by omega)]
  split
  ·rename_i hc
   refine⟨?_,fun x=>by rw[List.mem_append,List.mem_append,h2]⟩
   unfold Srt
   rw[List.pairwise_append]
   refine⟨h1,List.pairwise_singleton _ _,fun a ha b hb=>?_⟩
   rw[List.mem_singleton.1 hb]
   have ha:=(h2 a).1 ha
   obtain⟨k,hk,e⟩:=List.getElem_of_mem ha
   rw[List.length_take]at hk
   rw[List.getElem_take]at e
   rcases hc with hc|hc
   ·omega
   ·have hne:l.getD n z3≠l.getD (n-1) z3:=fun e=>hc (decide_eq_true e)
    rw[qE (by omega),qE (by omega)]at hne
    rw[qE (by omega)]
    have w:=List.pairwise_iff_getElem.1 hw
    have l1:cpV l[n-1] l[n]<0:=KG (w (n-1) n (by omega) (by omega) (by omega)) hne
    by_cases e2:k=n-1
    ·subst e2;rw[←e];exact l1
    ·have l2:=w k (n-1) (by omega) (by omega) (by omega)
     rw[e]at l2
     rw[CT]at*;grind
  ·rename_i hc
   refine⟨h1,fun x=>?_⟩
   rw[h2,List.mem_append,List.mem_singleton]
   constructor
   ·exact .inl
   ·rintro(h|h)
    ·exact h
    ·have hc2: ¬n=0∧l.getD n z3=l.getD (n-1) z3:=by
      refine⟨fun e=>hc (.inl e),?_⟩
      by_cases e:l.getD n z3=l.getD (n-1) z3
      ·exact e
      ·exact absurd (.inr (fun h=>e (of_decide_eq_true h))) hc
     rw[h,hc2.2,qE (by omega),List.mem_iff_getElem]
     exact⟨n-1,by rw[List.length_take];omega,by rw[List.getElem_take]⟩
theorem WO(l:List V3):Srt (qj l):=(JG (GS _) _ (Nat.le_refl _)).1
theorem HE{l:List V3}{x:V3}:x∈qj l↔x∈l:=by
 have:=(JG (GS (l:=l) l.length) _ (Nat.le_refl _)).2 x
 rw[List.take_length]at this
 exact this.trans (Do z3 cpV)
theorem J7{l:List V3}{p:V3}{i:Nat}: ∀{m},mid1 l p i m=true↔ ∃j,j<m∧insQ (l.getD i z3) ((l.drop (i+1)).getD j z3) p
 |0=>by simp[mid1]
 |m+1=>by
  rw[mid1,Bool.or_eq_true,J7,decide_eq_true_iff]
  constructor
  ·rintro(⟨j,a,b⟩|h)
   ·exact⟨j,by omega,b⟩
   ·exact⟨m,by omega,h⟩
  ·rintro⟨j,a,b⟩
   by_cases e:j=m
   ·subst e;exact .inr b
   ·exact .inl ⟨j,by omega,b⟩
theorem J8{l:List V3}{p:V3}: ∀{n},mid2 l p n=true↔ ∃i,i<n∧ ∃j,j<(l.drop (i+1)).length∧insQ (l.getD i z3) ((l.drop (i+1)).getD j z3) p
 |0=>by simp[mid2]
 |n+1=>by
  rw[mid2,Bool.or_eq_true,J8,J7]
  constructor
  ·rintro(⟨i,a,b⟩|h)
   ·exact⟨i,by omega,b⟩
   ·exact⟨n,by omega,h⟩
  ·rintro⟨i,a,b⟩
   by_cases e:i=n
   ·subst e;exact .inr b
   ·exact .inl ⟨i,by omega,b⟩
theorem Uk{a b p:V3}(h:insQ a b p):insQ b a p:=by
 obtain⟨a1,a2,a3⟩:=a;obtain⟨b1,b2,b3⟩:=b;obtain⟨p1,p2,p3⟩:=p
 unfold insQ at*
 simp only[qc,subV,dotQ,Prod.mk.injEq]at*
 grind
theorem Yx{a p:V3}: ¬insQ a a p:=fun h=>by have h:=h.2;have:=Fk (subV a p);grind
theorem US{l:List V3}{p:V3}:mid2 l p l.length=true↔ ∃a,a∈l∧ ∃b,b∈l∧insQ a b p:=by
 rw[J8]
 constructor
 ·rintro⟨i,hi,j,hj,h⟩
  rw[qE hi,qE hj]at h
  exact⟨_,List.getElem_mem hi,_,List.mem_of_mem_drop (List.getElem_mem hj),h⟩
 ·rintro⟨a,ha,b,hb,h⟩
  obtain⟨i,hi,e⟩:=List.getElem_of_mem ha
  obtain⟨j,hj,e2⟩:=List.getElem_of_mem hb
  have key: ∀i j(hi:i<l.length)(hj:j<l.length),i<j→insQ l[i] l[j] p→ ∃i,i<l.length∧ ∃j,j<(l.drop (i+1)).length∧insQ (l.getD i z3) ((l.drop (i+1)).getD j z3) p:=fun i j hi hj hij h=>by
   refine⟨i,hi,j-(i+1),by rw[List.length_drop];omega,?_⟩
   rw[qE hi,qE (by rw[List.length_drop];omega),List.getElem_drop]
   have e:i+1+(j-(i+1))=j:=by omega
   simp only[e];exact h
  subst e e2
  rcases Nat.lt_trichotomy i j with c|c|c
  ·exact key i j hi hj c h
  ·subst c;exact absurd h Yx
  ·exact key j i hj hi c (Uk h)
theorem CQ{l:List V3}: ∀n,n≤l.length→(jm l n).Sublist (l.take n)
 |0,_=>by simp[jm]
 |n+1,hn=>by
  rw[jm,jW (d:=z3) (by omega)]
  split
  ·exact(CQ n (by omega)).trans (List.sublist_append_left _ _)
  ·exact(CQ n (by omega)).append (List.Sublist.refl _)
theorem CN{l:List V3}{x:V3}: ∀{n},n≤l.length→(x∈jm l n↔x∈l.take n∧ ¬mid2 l x l.length=true)
 |0,_=>by simp[jm]
 |n+1,hn=>by
  rw[jm,jW (d:=z3) (by omega),List.mem_append,List.mem_singleton]
  split
  ·rename_i hc
   rw[CN (by omega)]
   constructor
   ·rintro⟨a,b⟩;exact⟨.inl a,b⟩
   ·rintro⟨a|a,b⟩
    ·exact⟨a,b⟩
    ·subst a;exact absurd hc b
  ·rename_i hc
   rw[List.mem_append,List.mem_singleton,CN (by omega)]
   constructor
   ·rintro(⟨a,b⟩|a)
    ·exact⟨.inl a,b⟩
    ·subst a;exact⟨.inr rfl,hc⟩
   ·rintro⟨a|a,b⟩
    ·exact .inl ⟨a,b⟩
    ·exact .inr a
theorem Tu(l:List V3):Srt (zl l):=by
 have:=CQ (l:=qj l) _ (Nat.le_refl _)
 rw[List.take_length]at this
 exact(WO l).sublist this
def Cor(l:List V3)(x:V3):Prop:=x∈l∧ ∀a∈l,∀b∈l,¬insQ a b x
theorem Nf{l:List V3}{x:V3}:x∈zl l↔Cor l x:=by
 unfold zl
 rw[CN (Nat.le_refl _),List.take_length,US,HE]
 unfold Cor
 simp only[HE]
 constructor
 ·rintro⟨a,b⟩;exact⟨a,fun u hu v hv h=>b ⟨u,hu,v,hv,h⟩⟩
 ·rintro⟨a,b⟩;exact⟨a,fun⟨u,hu,v,hv,h⟩=>b u hu v hv h⟩
def Kp(l:List V3)(i j:Nat):Prop:=(j<i→l.getD i z3≠l.getD j z3)∧ ∀k,k<l.length→ ¬insQ (l.getD j z3) (l.getD k z3) (l.getD i z3)
noncomputable def rcN(l:List V3):Nat→List V3
 |0=>[]
 |i+1=>open Classical in if∀j,j<l.length→Kp l i j then insR z3 cpV (l.getD i z3) (rcN l i)else rcN l i
theorem SP{l:List V3}: ∀{n},n≤l.length→Srt (rcN l n)∧ ∀x,x∈rcN l n↔x∈l.take n∧ ∀a∈l,∀b∈l,¬insQ a b x
 |0,_=>⟨List.Pairwise.nil,fun x=>by simp[rcN]⟩
 |n+1,hn=>by
  obtain⟨h1,h2⟩:=SP (l:=l) (n:=n) (by omega)
  rw[rcN,jW (d:=z3) (by omega)]
  have hT: ∀{y},y∈l.take n↔ ∃j,j<n∧y=l.getD j z3:=fun{y}=>by
   rw[List.mem_iff_getElem]
   constructor
   ·rintro⟨j,hj,e⟩
    rw[List.length_take]at hj
    rw[List.getElem_take]at e
    exact⟨j,by omega,by rw[qE (by omega),e]⟩
   ·rintro⟨j,hj,e⟩
    exact⟨j,by rw[List.length_take];omega,by rw[List.getElem_take,e,qE]⟩
  have hI:(∀j,j<l.length→ ∀k,k<l.length→ ¬insQ (l.getD j z3) (l.getD k z3) (l.getD n z3))↔ ∀a∈l,∀b∈l,¬insQ a b (l.getD n z3):=by
   constructor
   ·intro h a ha b hb
    obtain⟨i,hi,e⟩:=List.getElem_of_mem ha
    obtain⟨j,hj,e2⟩:=List.getElem_of_mem hb
    have:=h i hi j hj
    rw[qE hi,qE hj,e,e2]at this;exact this
   ·intro h j hj k hk
    rw[qE hj,qE hk];exact h _ (List.getElem_mem hj) _ (List.getElem_mem hk)
  split
  ·rename_i hc
   have hI:=hI.1 fun j hj=>(hc j hj).2
   have hN: ∀y∈rcN l n,l.getD n z3≠y:=fun y hy e=>by
    obtain⟨j,hj,e2⟩:=hT.1 ((h2 y).1 hy).1
    exact(hc j (by omega)).1 hj (e.trans e2)
   refine⟨KU (R:=fun p q=>cpV p q<0) (fun a b=>IB a b) h1 (fun y _ h=>h) (fun y hy h=>KG h (hN y hy)),fun x=>?_⟩
   rw[IW,h2,List.mem_append,List.mem_singleton]
   constructor
   ·rintro(h|h)
    ·subst h;exact⟨.inr rfl,hI⟩
    ·exact⟨.inl h.1,h.2⟩
   ·rintro⟨h|h,k⟩
    ·exact .inr ⟨h,k⟩
    ·exact .inl h
  ·rename_i hc
   refine⟨h1,fun x=>?_⟩
   rw[h2,List.mem_append,List.mem_singleton]
   constructor
   ·rintro⟨a,b⟩;exact⟨.inl a,b⟩
   ·rintro⟨a|a,b⟩
    ·exact⟨a,b⟩
    ·subst a
     refine⟨?_,b⟩
     by_cases e: ∃j,j<n∧l.getD n z3=l.getD j z3
     ·exact hT.2 e
     ·exact absurd (fun j hj=>⟨fun hj e2=>e ⟨j,hj,e2⟩,hI.2 b j hj⟩) hc
theorem ZN(l:List V3):rcN l l.length=zl l:=by
 have h:=SP (l:=l) (Nat.le_refl _)
 exact LA h.1 (Tu l) fun x=>by rw[h.2,Nf,List.take_length];rfl
theorem bigK(f g:V3×Rat): ∀l:List V3,(∀p∈l,valP f p≤0∧(valP f p=0→valP g p≤0))→ ∃K:Rat,0≤K∧ ∀p∈l,K*valP f p+valP g p≤0
 |[],_=>⟨0,Rat.le_refl,fun p hp=>by cases hp⟩
 |p::l,h=>by
  obtain⟨K,K0,K1⟩:=bigK f g l fun u hu=>h u (List.mem_cons_of_mem _ hu)
  have hp:=h p List.mem_cons_self
  by_cases e:K*valP f p+valP g p≤0
  ·exact⟨K,K0,fun u hu=>by
    rcases List.mem_cons.1 hu with rfl|hu
    ·exact e
    ·exact K1 u hu⟩
  ·have hf:valP f p≠0:=fun e2=>by have:=hp.2 e2;rw[e2]at e;grind
   have ed:=div_eq (x:=valP g p) (y:=valP f p) hf
   generalize valP g p/valP f p=d at ed
   have hK:K≤ -d:=by
    rcases Rat.le_total (a:=K) (b:= -d)with q|q
    ·exact q
    ·have:=Rat.mul_nonneg (show 0≤K+d by grind) (show 0≤ -valP f p by grind);grind
   refine⟨-d,by grind,fun u hu=>?_⟩
   rcases List.mem_cons.1 hu with rfl|hu
   ·grind
   ·have h1:=K1 u hu
    have h2:=(h u (List.mem_cons_of_mem _ hu)).1
    have:=Rat.mul_nonneg (show 0≤ -d-K by grind) (show 0≤ -valP f u by grind);grind
theorem Hl.low{l:List V3}{f g:V3×Rat}{y:V3}(hy:Hl l y)(h: ∀p∈l,valP f p≤0∧(valP f p=0→valP g p≤0))(hf:valP f y=0):valP g y≤0:=by
 obtain⟨K,K0,K1⟩:=bigK f g l h
 have:=hy (lcQ K f 1 g 0) fun p hp=>by rw[wR];have:=K1 p hp;grind
 rw[wR,hf]at this;grind
theorem Hl.top{l:List V3}{f:V3×Rat}{x y:V3}(h: ∀p∈l,p≠x→valP f p<0)(hx:valP f x=0)(hy:Hl l y)(hf:valP f y=0):y=x:=by
 have co: ∀n:V3,dotQ n y≤dotQ n x:=fun n=>by
  have:=hy.low (g:=(n,dotQ n x)) (fun p hp=>by
   by_cases e:p=x
   ·subst e;exact⟨by rw[hx];exact Rat.le_refl,fun _=>by unfold valP;grind⟩
   ·have:=h p hp e;exact⟨Rat.le_of_lt this,fun e=>by grind⟩) hf
  unfold valP at this;grind
 have c1:=co (1,0,0);have c2:=co (-1,0,0);have c3:=co (0,1,0);have c4:=co (0,-1,0);have c5:=co (0,0,1);have c6:=co (0,0,-1)
 rw[wQ]
 simp only[dotQ]at*
 exact⟨by grind,by grind,by grind⟩
section
theorem nq{q:Bool}(h:(!q)=true): ¬q=true:=by simpa using h
theorem nq'{q:Bool}(h: ¬(!q)=true):q=true:=by simpa using h
section
variable {l m:List V3} {i:Nat}
end
theorem Lj(l:List V3): ∀n,(rcN l n).length≤n
 |0=>Nat.le_refl 0
 |n+1=>by
  have:=Lj l n
  rw[rcN];split
  ·rw[IV];omega
  ·omega
def KpI(l:List V3)(i j:Nat)(q:Bool):Prop:=q=true↔ ∀a,a<j→Kp l i a
def KpJ(l:List V3)(i j k:Nat)(q:Bool):Prop:=q=true↔(∀a,a<j→Kp l i a)∧(j<i→l.getD i z3≠l.getD j z3)∧ ∀c,c<k→ ¬insQ (l.getD j z3) (l.getD c z3) (l.getD i z3)
section
variable {l o:List V3} {i j k:Nat} {q:Bool}
theorem KpI.start:KpI l i 0 true:=⟨fun _ a ha=>absurd ha (Nat.not_lt_zero a),fun _=>rfl⟩
theorem KpJ.start(h:KpI l i j q)(hq:q=true){r:Bool}(hr:r=true↔(j<i→l.getD i z3≠l.getD j z3)):KpJ l i j 0 r:=by
 constructor
 ·intro e;exact⟨h.1 hq,hr.1 e,fun c hc=>absurd hc (Nat.not_lt_zero c)⟩
 ·intro e;exact hr.2 e.2.1
theorem kj_r{x y:V3}(h:j<i):(!decide (x=y))=true↔(j<i→x≠y):=by simp[h]
theorem kj_t(h:i≤j){x y:V3}:true=true↔(j<i→x≠y):=⟨fun _ h2=>absurd h2 (by omega),fun _=>rfl⟩
theorem KpJ.step(h:KpJ l i j k q)(hq:q=true):KpJ l i j (k+1) (!decide (insQ (l.getD j z3) (l.getD k z3) (l.getD i z3))):=by
 have hh:=h.1 hq
 unfold KpJ
 rw[Bool.not_eq_true',decide_eq_false_iff_not]
 constructor
 ·intro e
  refine⟨hh.1,hh.2.1,fun c hc=>?_⟩
  by_cases e2:c=k
  ·subst e2;exact e
  ·exact hh.2.2 c (by omega)
 ·intro e;exact e.2.2 k (by omega)
theorem KpJ.stop(h:KpJ l i j k q)(he:k=l.length∨ ¬q=true)(hk:k≤l.length):KpI l i (j+1) q:=by
 constructor
 ·intro e a ha
  have hh:=h.1 e
  by_cases e2:a=j
  ·subst e2
   refine⟨hh.2.1,fun c hc=>?_⟩
   rcases he with he|he
   ·exact hh.2.2 c (by omega)
   ·exact absurd e he
  ·exact hh.1 a (by omega)
 ·intro e
  exact h.2 ⟨fun a ha=>e a (by omega),(e j (by omega)).1,fun c hc=>(e j (by omega)).2 c (by omega)⟩
theorem KpI.stop(h:KpI l i j q)(he:j=l.length∨ ¬q=true)(hj:j≤l.length):q=true↔ ∀a,a<l.length→Kp l i a:=by
 constructor
 ·intro e a ha
  rcases he with he|he
  ·exact h.1 e a (by omega)
  ·exact absurd e he
 ·intro e;exact h.2 fun a ha=>e a (by omega)
theorem rc_n(h:o=rcN l i)(k:q=true↔ ∀a,a<l.length→Kp l i a)(hq: ¬q=true):o=rcN l (i+1):=by
 rw[rcN,if_neg (fun e=>hq (k.2 e)),h]
theorem rc_y(h:o=rcN l i)(k:q=true↔ ∀a,a<l.length→Kp l i a)(hq:q=true):insR z3 cpV (l.getD i z3) o=rcN l (i+1):=by
 rw[rcN,if_pos (k.1 hq),h]
theorem ZO(h:o=rcN l i)(hi: ¬i<l.length)(hl:i≤l.length):o=zl l:=by
 rw[h,show i=l.length by omega,ZN]
def PoR(x:V3)(o:List V3)(r:Nat):Prop:=posR z3 cpV x o r=posR z3 cpV x o o.length∧r≤o.length
theorem PoR.start(x:V3)(o:List V3):PoR x o o.length:=⟨rfl,Nat.le_refl _⟩
theorem PoR.step{x:V3}{r:Nat}(h:PoR x o r)(h0:0<r)(hc:cpV x (o.getD (r-1) z3)<0):PoR x o (r-1):=by
 refine⟨?_,by have:=h.2;omega⟩
 rw[←h.1]
 obtain⟨r,rfl⟩: ∃s,r=s+1:=⟨r-1,by omega⟩
 rw[show r+1-1=r by omega]at hc⊢
 rw[posR,if_pos hc]
theorem PoR.pos{x:V3}{r:Nat}(h:PoR x o r)(hc: ¬0<r∨ ¬cpV x (o.getD (r-1) z3)<0):posR z3 cpV x o o.length=r:=by
 rw[←h.1]
 rcases Nat.eq_zero_or_pos r with e|e
 ·subst e;rfl
 ·rcases hc with hc|hc
  ·exact absurd e hc
  ·obtain⟨r,rfl⟩: ∃s,r=s+1:=⟨r-1,by omega⟩
   rw[show r+1-1=r by omega]at hc
   rw[posR,if_neg hc]
theorem Uj{x:V3}{r n1 n2:Nat}(h:posR z3 cpV x o o.length=r)(hr:r≤o.length)(h1:n1=o.length-r)(h2:n2=o.length+1-r):(cpyL (o++[z3]) (r+1) r (min n2 n1)).set r x=insR z3 cpV x o:=by
 unfold insR cpyL
 rw[h]
 subst h1 h2
 rw[show min (o.length+1-r) (o.length-r)=o.length-r by omega]
 have e1:(o++[z3]).take (r+1)=o.take r++[(o++[z3]).getD r z3]:=by
  rw[jW (d:=z3) (by simp;omega),List.take_append_of_le_length hr]
 have e2:((o++[z3]).drop r).take (o.length-r)=o.drop r:=by
  rw[List.drop_append_of_le_length hr,List.take_append_of_le_length (by simp)]
  exact List.take_of_length_le (by simp)
 have e3:(o++[z3]).drop (r+1+(o.length-r))=[]:=List.drop_of_length_le (by simp;omega)
 rw[e1,e2,e3,List.append_nil,List.append_assoc]
 have hlen:(o.take r).length=r:=by rw[List.length_take];omega
 rw[List.set_append_right _ _ (by omega),hlen,Nat.sub_self];rfl
end
theorem DL{x:V3}{o:List V3}{r:Nat}(h:posR z3 cpV x o o.length=r)(hr:r≤o.length):(cpyL (o++[z3]) (r+1) r (min ((o.length+[z3].length) -r) ((o.length+[z3].length) -(r+1)))).set r x=insR z3 cpV x o:=
 Uj h hr (by simp) (by simp)
theorem Sl{o:List V3}{r:Nat}(hr:r≤o.length):(cpyL (o++[z3]) (r+1) r (min ((o.length+[z3].length) -r) ((o.length+[z3].length) -(r+1)))).length=o.length+[z3].length:=by
 unfold cpyL;simp only[List.length_append,List.length_take,List.length_drop,List.length_cons,List.length_nil];omega
theorem HX{o:List V3}{r:Nat}(hr:r≤o.length):r<(cpyL (o++[z3]) (r+1) r (min ((o.length+[z3].length) -r) ((o.length+[z3].length) -(r+1)))).length:=by
 rw[Sl hr];exact Nat.lt_succ_of_le hr
theorem HY{o:List V3}{r i:Nat}{x:V3}(hr:r≤o.length):o.length+[z3].length=((cpyL (o++[z3]) (r+1) r (min ((o.length+[z3].length) -r) ((o.length+[z3].length) -(r+1)))).set i x).length:=by
 rw[List.length_set,Sl hr]
theorem Tm{a b:T3}{k:Nat}(ha:Bnd tT3 (bT3 64) a)(hb:Bnd tT3 (bT3 64) b)(hk:518000000≤k:=by decide):Bnd (.sl tV3) (.s 255 (bV3 k)) (qb a b):=by
 have g:=Kw (m:=64) (a:=a) (b:=b) ⟨ha.1,ha.2.1,ha.2.2⟩ ⟨hb.1,hb.2.1,hb.2.2⟩
 exact⟨Nat.le_trans (BV a b).2 (by decide),fun x hx=>zg (g.2 x hx) (by omega)⟩
theorem PM(a b:T3):(qv a b).length≤8:=by
 unfold qv;split
 ·exact Nat.zero_le _
 ·exact Nat.le_trans (CR _) (BV a b).2
def getT(t:T3)(k:Nat):V3:=gt tV3 [t.1,t.2.1,t.2.2] k
section
variable {s u:Dice} {t:T3} {i:Int}
end
end
section
section
variable {P:Program}
end
end
abbrev VV:FI:=⟨15,[(.pr (.pr .rat (.pr .rat .rat)) (.pr (.pr .rat (.pr .rat .rat)) (.pr .rat (.pr .rat .rat)))),(.pr (.pr .rat (.pr .rat .rat)) (.pr (.pr .rat (.pr .rat .rat)) (.pr .rat (.pr .rat .rat))))],[(.p (.p (.n 64) (.p (.n 64) (.n 64))) (.p (.p (.n 64) (.p (.n 64) (.n 64))) (.p (.n 64) (.p (.n 64) (.n 64))))),(.p (.p (.n 64) (.p (.n 64) (.n 64))) (.p (.p (.n 64) (.p (.n 64) (.n 64))) (.p (.n 64) (.p (.n 64) (.n 64)))))],fun z=>(fun(a:(Rat×Rat×Rat)×(Rat×Rat×Rat)×Rat×Rat×Rat)(b_:(Rat×Rat×Rat)×(Rat×Rat×Rat)×Rat×Rat×Rat)=>[Bnd tT3 (bT3 64) a,Bnd tT3 (bT3 64) b_]) z.1 z.2,fun b z=>(fun(a:(Rat×Rat×Rat)×(Rat×Rat×Rat)×Rat×Rat×Rat)(b_:(Rat×Rat×Rat)×(Rat×Rat×Rat)×Rat×Rat×Rat)=> .c (.one (.dt (.sl tV3) (.s 96 (bV3 41000)) (qv a b_)))) z.1 z.2⟩
theorem VW:VV.OK Tryz.prog:=mkF hmix 137 Tryz.func15 rfl rfl (by decide) [(55,.c Aw),(58,.c KP),(59,.c O3),(60,.c VR),(61,.c Zy),(62,.c ML),(63,.c OR),(64,.c WF)] (fun(a:(Rat×Rat×Rat)×(Rat×Rat×Rat)×Rat×Rat×Rat)(b_:(Rat×Rat×Rat)×(Rat×Rat×Rat)×Rat×Rat×Rat) b hx hp=>Ew (Nat.le_refl _) (hp _ List.mem_cons_self) (hp _ (List.mem_cons_of_mem _ List.mem_cons_self))) (fun(a:(Rat×Rat×Rat)×(Rat×Rat×Rat)×Rat×Rat×Rat)(b_:(Rat×Rat×Rat)×(Rat×Rat×Rat)×Rat×Rat×Rat) hx hp=>by
 have hp0:Bnd tT3 (bT3 64) a:=hp _ (List.mem_cons_self)
 have hp1:Bnd tT3 (bT3 64) b_:=hp _ (List.mem_cons_of_mem _ (List.mem_cons_self))
 refine⟨.cond (.nil) (.cond (.nil) (.pre 4 (.ex (frzP 2 (.pr (.pr .rat (.pr .rat .rat)) (.pr (.pr .rat (.pr .rat .rat)) (.pr .rat (.pr .rat .rat)))) (.p (.p (.n 64) (.p (.n 64) (.n 64))) (.p (.p (.n 64) (.p (.n 64) (.n 64))) (.p (.n 64) (.p (.n 64) (.n 64))))) [2])) (.h 4 0 (.ext (vu (.pr .rat (.pr .rat .rat)) (.p (.n 64) (.p (.n 64) (.n 64))))) (.pre 10 (.ex (rwS 6 (.sl (.pr .rat (.pr .rat .rat))) (.s 255 (.p (.n 536870904) (.p (.n 536870904) (.n 536870904)))) (qb a b_))) (.loop [.s 9 (.nat .i64) (.n 256),.g 8 90002 (.pr .rat (.pr .rat .rat)) (.p (.n 536870904) (.p (.n 536870904) (.n 536870904))) 255] (fun((i,out):Nat×List (Rat×Rat×Rat))=>out=rcN (qb a b_) i∧i≤(qb a b_).length) (fun((i,out):Nat×List (Rat×Rat×Rat))=>(qb a b_).length-i) (fun((i,out):Nat×List (Rat×Rat×Rat))=> .cond (.loop [.s 11 (.nat .i64) (.n 256),.s 10 .bool .u] (fun((j,q):Nat×Bool)=>KpI (qb a b_) i j q∧j≤(qb a b_).length) (fun((j,q):Nat×Bool)=>(qb a b_).length-j) (fun((j,q):Nat×Bool)=> .cond (.cond (.cond (.loop [.s 12 (.nat .i64) (.n 256),.s 10 .bool .u] (fun((k,q2):Nat×Bool)=>KpJ (qb a b_) i j k q2∧k≤(qb a b_).length) (fun((k,q2):Nat×Bool)=>(qb a b_).length-k) (fun((k,q2):Nat×Bool)=> .nil)) (.loop [.s 12 (.nat .i64) (.n 256),.s 10 .bool .u] (fun((k,q2):Nat×Bool)=>KpJ (qb a b_) i j k q2∧k≤(qb a b_).length) (fun((k,q2):Nat×Bool)=>(qb a b_).length-k) (fun((k,q2):Nat×Bool)=> .nil))) (.cond (.nil) (.loop [.s 13 (.nat .i64) (.n 256)] (fun(r:Nat)=>PoR ((qb a b_).getD i z3) out r) (fun(r:Nat)=>r) (fun(r:Nat)=> .cond (.h 24 9 (.i .sub) (.cond (.h 25 1 (.i .sub) (.nil)) (.h 26 2 (.mk (.im (.pr .rat (.pr .rat .rat)) (.p (.n 536870904) (.p (.n 536870904) (.n 536870904))))) (.h 27 7 (.ext Fn) (.nil))))) (.h 26 2 (.mk (.im (.pr .rat (.pr .rat .rat)) (.p (.n 536870904) (.p (.n 536870904) (.n 536870904))))) (.h 27 7 (.ext Fn) (.nil))))))) (.cond (.nil) (.loop [.s 13 (.nat .i64) (.n 256)] (fun(r:Nat)=>PoR ((qb a b_).getD i z3) out r) (fun(r:Nat)=>r) (fun(r:Nat)=> .cond (.h 24 9 (.i .sub) (.cond (.h 25 1 (.i .sub) (.nil)) (.h 26 2 (.mk (.im (.pr .rat (.pr .rat .rat)) (.p (.n 536870904) (.p (.n 536870904) (.n 536870904))))) (.h 27 7 (.ext Fn) (.nil))))) (.h 26 2 (.mk (.im (.pr .rat (.pr .rat .rat)) (.p (.n 536870904) (.p (.n 536870904) (.n 536870904))))) (.h 27 7 (.ext Fn) (.nil)))))))) (.pre 999999 (.frz 90002 true [4]) (.nil)))))))),kcast (by kernel_rfl) (Sp (decide (qz a=(0,0,0))=true) (fun h1=>((if_pos (.inl (yd h1))).symm:[]=qv a b_)) (fun h2=>Sp (decide (qz b_=(0,0,0))=true) (fun h3=>((if_pos (.inr (yd h3))).symm:[]=qv a b_)) (fun h4=>I (rfl:qC (upP (qd b_) b_.2.2 b_.1) (qC (upP (qd b_) b_.2.1 b_.2.2) (qC (upP (qd b_) b_.1 b_.2.1) (qC (oppP (qd b_)) (qC (qd b_) [a.1,a.2.1,a.2.2]))))=(qb a b_)) (I (Tm hp0 hp1:Bnd (.sl (.pr .rat (.pr .rat .rat))) (.s 255 (.p (.n 536870904) (.p (.n 536870904) (.n 536870904)))) (qb a b_)) (have hcl:=(BV a b_).2;I (rfl:0=([]:List (Rat×Rat×Rat)).length) (I (⟨rfl,Nat.zero_le _⟩:([]:List (Rat×Rat×Rat))=rcN (qb a b_) 0∧0≤(qb a b_).length) (fun(i:Nat)(out:List (Rat×Rat×Rat))(hb5:HB [.s 9 (.nat .i64) (.n 256),.g 8 90002 (.pr .rat (.pr .rat .rat)) (.p (.n 536870904) (.p (.n 536870904) (.n 536870904))) 255] (i,out))(hI:out=rcN (qb a b_) i∧i≤(qb a b_).length)=>have hv44:=(show i≤256 from hb5.1);have hv45:=(show out.length≤255 from hb5.2.1);have hol:=(show out.length≤i from hI.1▸Lj _ _);Sp (i<(qb a b_).length) (fun h6=>I (⟨KpI.start,Nat.zero_le _⟩:KpI (qb a b_) i 0 true∧0≤(qb a b_).length) (fun(j:Nat)(q:Bool)(hb7:HB [.s 11 (.nat .i64) (.n 256),.s 10 .bool .u] (j,q))(hJ:KpI (qb a b_) i j q∧j≤(qb a b_).length)=>have hv42:=(show j≤256 from hb7.1);have hjl:=hJ.2;Sp (j<(qb a b_).length) (fun h8=>Sp (q=true) (fun h9=>Sp (i≤j) (fun h10=>I (⟨KpJ.start hJ.1 h9 (kj_t h10),Nat.zero_le _⟩:KpJ (qb a b_) i j 0 true∧0≤(qb a b_).length) (fun(k:Nat)(q2:Bool)(hb11:HB [.s 12 (.nat .i64) (.n 256),.s 10 .bool .u] (k,q2))(hK:KpJ (qb a b_) i j k q2∧k≤(qb a b_).length)=>have hv16:=(show k≤256 from hb11.1);have hkl:=hK.2;Sp (k<(qb a b_).length) (fun h12=>Sp (q2=true) (fun h13=>I (?_:j<(qb a b_).length) (I (?_:k<(qb a b_).length) (I (?_:i<(qb a b_).length) (I (show(k+1)≤256 by omega:Bnd (.nat .i64) (.n 256) (k+1)) (And.intro (⟨hK.1.step h13,by omega⟩:KpJ (qb a b_) i j (k+1) (!(decide (insQ ((qb a b_).getD j (0,(0,0))) ((qb a b_).getD k (0,(0,0))) ((qb a b_).getD i (0,(0,0))))))∧(k+1)≤(qb a b_).length) (?_:(qb a b_).length-(k+1)<(qb a b_).length-k)))))) (fun h14=>I (show(j+1)≤256 by omega:Bnd (.nat .i64) (.n 256) (j+1)) (And.intro (⟨hK.1.stop (.inr h14) hK.2,by omega⟩:KpI (qb a b_) i (j+1) q2∧(j+1)≤(qb a b_).length) (?_:(qb a b_).length-(j+1)<(qb a b_).length-j)))) (fun h15=>I (show(j+1)≤256 by omega:Bnd (.nat .i64) (.n 256) (j+1)) (And.intro (⟨hK.1.stop (.inl (by omega)) hK.2,by omega⟩:KpI (qb a b_) i (j+1) q2∧(j+1)≤(qb a b_).length) (?_:(qb a b_).length-(j+1)<(qb a b_).length-j))))) (fun h17=>I (?_:i<(qb a b_).length) (I (?_:j<(qb a b_).length) (I (⟨KpJ.start hJ.1 h9 (kj_r (by omega)),Nat.zero_le _⟩:KpJ (qb a b_) i j 0 (!(decide (((qb a b_).getD i (0,(0,0)))=((qb a b_).getD j (0,(0,0))))))∧0≤(qb a b_).length) (fun(k:Nat)(q2:Bool)(hb18:HB [.s 12 (.nat .i64) (.n 256),.s 10 .bool .u] (k,q2))(hK:KpJ (qb a b_) i j k q2∧k≤(qb a b_).length)=>have hv23:=(show k≤256 from hb18.1);have hkl:=hK.2;Sp (k<(qb a b_).length) (fun h19=>Sp (q2=true) (fun h20=>I (?_:j<(qb a b_).length) (I (?_:k<(qb a b_).length) (I (?_:i<(qb a b_).length) (I (show(k+1)≤256 by omega:Bnd (.nat .i64) (.n 256) (k+1)) (And.intro (⟨hK.1.step h20,by omega⟩:KpJ (qb a b_) i j (k+1) (!(decide (insQ ((qb a b_).getD j (0,(0,0))) ((qb a b_).getD k (0,(0,0))) ((qb a b_).getD i (0,(0,0))))))∧(k+1)≤(qb a b_).length) (?_:(qb a b_).length-(k+1)<(qb a b_).length-k)))))) (fun h21=>I (show(j+1)≤256 by omega:Bnd (.nat .i64) (.n 256) (j+1)) (And.intro (⟨hK.1.stop (.inr h21) hK.2,by omega⟩:KpI (qb a b_) i (j+1) q2∧(j+1)≤(qb a b_).length) (?_:(qb a b_).length-(j+1)<(qb a b_).length-j)))) (fun h22=>I (show(j+1)≤256 by omega:Bnd (.nat .i64) (.n 256) (j+1)) (And.intro (⟨hK.1.stop (.inl (by omega)) hK.2,by omega⟩:KpI (qb a b_) i (j+1) q2∧(j+1)≤(qb a b_).length) (?_:(qb a b_).length-(j+1)<(qb a b_).length-j)))))))) (fun h24=>Sp ((!q)=true) (fun h25=>I (show(i+1)≤256 by omega:Bnd (.nat .i64) (.n 256) (i+1)) (I (?_:out.length=out.length) (And.intro (⟨rc_n hI.1 (hJ.1.stop (.inr h24) hJ.2) (nq h25),by omega⟩:out=rcN (qb a b_) (i+1)∧(i+1)≤(qb a b_).length) (?_:(qb a b_).length-(i+1)<(qb a b_).length-i)))) (fun h26=>I (PoR.start _ _:PoR ((qb a b_).getD i z3) out out.length) (fun(r:Nat)(hb27:HB [.s 13 (.nat .i64) (.n 256)] r)(hR:PoR ((qb a b_).getD i z3) out r)=>have hv32:=(show r≤256 from hb27);have hrl:=hR.2;Sp (0<r) (fun h28=>I (?_:i<(qb a b_).length) (I (?_:1≤r) (I (?_:r-1<out.length) (I (?_:r-1<out.length) (Sp (decide (cpV ((qb a b_).getD i (0,(0,0))) (out.getD (r-1) (0,(0,0)))<0)=true) (fun h29=>I (?_:1≤r) (And.intro (hR.step (by omega) (yd h29):PoR ((qb a b_).getD i z3) out (r-1)) (?_:(r-1)<r))) (fun h30=>I (?_:out.length=out.length) (I (by(try simp only[List.length_append,List.length_cons,List.length_nil])<;>omega:r+1≤out.length+[(0,0,0)].length) (I (by(try simp only[List.length_append,List.length_cons,List.length_nil])<;>omega:out.length+[(0,0,0)].length≤(out++[(0,0,0)]).length) (I (by(try simp only[List.length_append,List.length_cons,List.length_nil])<;>omega:r≤out.length+[(0,0,0)].length) (I (by(try simp only[List.length_append,List.length_cons,List.length_nil])<;>omega:out.length+[(0,0,0)].length≤(out++[(0,0,0)]).length) (I (by(try simp only[List.length_append,List.length_cons,List.length_nil])<;>omega:(r+1)+((out.length+[(0,0,0)].length) -(r+1))≤(out++[(0,0,0)]).length) (I (by(try simp only[List.length_append,List.length_cons,List.length_nil])<;>omega:r+((out.length+[(0,0,0)].length) -r)≤(out++[(0,0,0)]).length) (I (?_:i<(qb a b_).length) (I (by(try simp only[List.length_append,List.length_cons,List.length_nil])<;>omega:r<out.length+[(0,0,0)].length) (I (HX (by omega):r<(cpyL (out++[(0,0,0)]) (r+1) r (min ((out.length+[(0,0,0)].length) -r) ((out.length+[(0,0,0)].length) -(r+1)))).length) (I (show(i+1)≤256 by omega:Bnd (.nat .i64) (.n 256) (i+1)) (I (HY (by omega):out.length+[(0,0,0)].length=((cpyL (out++[(0,0,0)]) (r+1) r (min ((out.length+[(0,0,0)].length) -r) ((out.length+[(0,0,0)].length) -(r+1)))).set r ((qb a b_).getD i (0,(0,0)))).length) (I (by(try simp only[List.length_append,List.length_cons,List.length_nil])<;>omega:out.length+[(0,0,0)].length≤255) (And.intro (⟨(DL (hR.pos (.inr (yd' h30))) hR.2).trans (rc_y hI.1 (hJ.1.stop (.inr h24) hJ.2) (nq' h26)),by omega⟩:((cpyL (out++[(0,0,0)]) (r+1) r (min ((out.length+[(0,0,0)].length) -r) ((out.length+[(0,0,0)].length) -(r+1)))).set r ((qb a b_).getD i (0,(0,0))))=rcN (qb a b_) (i+1)∧(i+1)≤(qb a b_).length) (?_:(qb a b_).length-(i+1)<(qb a b_).length-i)))))))))))))))))))) (fun h31=>I (?_:out.length=out.length) (I (by(try simp only[List.length_append,List.length_cons,List.length_nil])<;>omega:r+1≤out.length+[(0,0,0)].length) (I (by(try simp only[List.length_append,List.length_cons,List.length_nil])<;>omega:out.length+[(0,0,0)].length≤(out++[(0,0,0)]).length) (I (by(try simp only[List.length_append,List.length_cons,List.length_nil])<;>omega:r≤out.length+[(0,0,0)].length) (I (by(try simp only[List.length_append,List.length_cons,List.length_nil])<;>omega:out.length+[(0,0,0)].length≤(out++[(0,0,0)]).length) (I (by(try simp only[List.length_append,List.length_cons,List.length_nil])<;>omega:(r+1)+((out.length+[(0,0,0)].length) -(r+1))≤(out++[(0,0,0)]).length) (I (by(try simp only[List.length_append,List.length_cons,List.length_nil])<;>omega:r+((out.length+[(0,0,0)].length) -r)≤(out++[(0,0,0)]).length) (I (?_:i<(qb a b_).length) (I (by(try simp only[List.length_append,List.length_cons,List.length_nil])<;>omega:r<out.length+[(0,0,0)].length) (I (HX (by omega):r<(cpyL (out++[(0,0,0)]) (r+1) r (min ((out.length+[(0,0,0)].length) -r) ((out.length+[(0,0,0)].length) -(r+1)))).length) (I (show(i+1)≤256 by omega:Bnd (.nat .i64) (.n 256) (i+1)) (I (HY (by omega):out.length+[(0,0,0)].length=((cpyL (out++[(0,0,0)]) (r+1) r (min ((out.length+[(0,0,0)].length) -r) ((out.length+[(0,0,0)].length) -(r+1)))).set r ((qb a b_).getD i (0,(0,0)))).length) (I (by(try simp only[List.length_append,List.length_cons,List.length_nil])<;>omega:out.length+[(0,0,0)].length≤255) (And.intro (⟨(DL (hR.pos (.inl h31)) hR.2).trans (rc_y hI.1 (hJ.1.stop (.inr h24) hJ.2) (nq' h26)),by omega⟩:((cpyL (out++[(0,0,0)]) (r+1) r (min ((out.length+[(0,0,0)].length) -r) ((out.length+[(0,0,0)].length) -(r+1)))).set r ((qb a b_).getD i (0,(0,0))))=rcN (qb a b_) (i+1)∧(i+1)≤(qb a b_).length) (?_:(qb a b_).length-(i+1)<(qb a b_).length-i))))))))))))))))))) (fun h33=>Sp ((!q)=true) (fun h34=>I (show(i+1)≤256 by omega:Bnd (.nat .i64) (.n 256) (i+1)) (I (?_:out.length=out.length) (And.intro (⟨rc_n hI.1 (hJ.1.stop (.inl (by omega)) hJ.2) (nq h34),by omega⟩:out=rcN (qb a b_) (i+1)∧(i+1)≤(qb a b_).length) (?_:(qb a b_).length-(i+1)<(qb a b_).length-i)))) (fun h35=>I (PoR.start _ _:PoR ((qb a b_).getD i z3) out out.length) (fun(r:Nat)(hb36:HB [.s 13 (.nat .i64) (.n 256)] r)(hR:PoR ((qb a b_).getD i z3) out r)=>have hv41:=(show r≤256 from hb36);have hrl:=hR.2;Sp (0<r) (fun h37=>I (?_:i<(qb a b_).length) (I (?_:1≤r) (I (?_:r-1<out.length) (I (?_:r-1<out.length) (Sp (decide (cpV ((qb a b_).getD i (0,(0,0))) (out.getD (r-1) (0,(0,0)))<0)=true) (fun h38=>I (?_:1≤r) (And.intro (hR.step (by omega) (yd h38):PoR ((qb a b_).getD i z3) out (r-1)) (?_:(r-1)<r))) (fun h39=>I (?_:out.length=out.length) (I (by(try simp only[List.length_append,List.length_cons,List.length_nil])<;>omega:r+1≤out.length+[(0,0,0)].length) (I (by(try simp only[List.length_append,List.length_cons,List.length_nil])<;>omega:out.length+[(0,0,0)].length≤(out++[(0,0,0)]).length) (I (by(try simp only[List.length_append,List.length_cons,List.length_nil])<;>omega:r≤out.length+[(0,0,0)].length) (I (by(try simp only[List.length_append,List.length_cons,List.length_nil])<;>omega:out.length+[(0,0,0)].length≤(out++[(0,0,0)]).length) (I (by(try simp only[List.length_append,List.length_cons,List.length_nil])<;>omega:(r+1)+((out.length+[(0,0,0)].length) -(r+1))≤(out++[(0,0,0)]).length) (I (by(try simp only[List.length_append,List.length_cons,List.length_nil])<;>omega:r+((out.length+[(0,0,0)].length) -r)≤(out++[(0,0,0)]).length) (I (?_:i<(qb a b_).length) (I (by(try simp only[List.length_append,List.length_cons,List.length_nil])<;>omega:r<out.length+[(0,0,0)].length) (I (HX (by omega):r<(cpyL (out++[(0,0,0)]) (r+1) r (min ((out.length+[(0,0,0)].length) -r) ((out.length+[(0,0,0)].length) -(r+1)))).length) (I (show(i+1)≤256 by omega:Bnd (.nat .i64) (.n 256) (i+1)) (I (HY (by omega):out.length+[(0,0,0)].length=((cpyL (out++[(0,0,0)]) (r+1) r (min ((out.length+[(0,0,0)].length) -r) ((out.length+[(0,0,0)].length) -(r+1)))).set r ((qb a b_).getD i (0,(0,0)))).length) (I (by(try simp only[List.length_append,List.length_cons,List.length_nil])<;>omega:out.length+[(0,0,0)].length≤255) (And.intro (⟨(DL (hR.pos (.inr (yd' h39))) hR.2).trans (rc_y hI.1 (hJ.1.stop (.inl (by omega)) hJ.2) (nq' h35)),by omega⟩:((cpyL (out++[(0,0,0)]) (r+1) r (min ((out.length+[(0,0,0)].length) -r) ((out.length+[(0,0,0)].length) -(r+1)))).set r ((qb a b_).getD i (0,(0,0))))=rcN (qb a b_) (i+1)∧(i+1)≤(qb a b_).length) (?_:(qb a b_).length-(i+1)<(qb a b_).length-i)))))))))))))))))))) (fun h40=>I (?_:out.length=out.length) (I (by(try simp only[List.length_append,List.length_cons,List.length_nil])<;>omega:r+1≤out.length+[(0,0,0)].length) (I (by(try simp only[List.length_append,List.length_cons,List.length_nil])<;>omega:out.length+[(0,0,0)].length≤(out++[(0,0,0)]).length) (I (by(try simp only[List.length_append,List.length_cons,List.length_nil])<;>omega:r≤out.length+[(0,0,0)].length) (I (by(try simp only[List.length_append,List.length_cons,List.length_nil])<;>omega:out.length+[(0,0,0)].length≤(out++[(0,0,0)]).length) (I (by(try simp only[List.length_append,List.length_cons,List.length_nil])<;>omega:(r+1)+((out.length+[(0,0,0)].length) -(r+1))≤(out++[(0,0,0)]).length) (I (by(try simp only[List.length_append,List.length_cons,List.length_nil])<;>omega:r+((out.length+[(0,0,0)].length) -r)≤(out++[(0,0,0)]).length) (I (?_:i<(qb a b_).length) (I (by(try simp only[List.length_append,List.length_cons,List.length_nil])<;>omega:r<out.length+[(0,0,0)].length) (I (HX (by omega):r<(cpyL (out++[(0,0,0)]) (r+1) r (min ((out.length+[(0,0,0)].length) -r) ((out.length+[(0,0,0)].length) -(r+1)))).length) (I (show(i+1)≤256 by omega:Bnd (.nat .i64) (.n 256) (i+1)) (I (HY (by omega):out.length+[(0,0,0)].length=((cpyL (out++[(0,0,0)]) (r+1) r (min ((out.length+[(0,0,0)].length) -r) ((out.length+[(0,0,0)].length) -(r+1)))).set r ((qb a b_).getD i (0,(0,0)))).length) (I (by(try simp only[List.length_append,List.length_cons,List.length_nil])<;>omega:out.length+[(0,0,0)].length≤255) (And.intro (⟨(DL (hR.pos (.inl h40)) hR.2).trans (rc_y hI.1 (hJ.1.stop (.inl (by omega)) hJ.2) (nq' h35)),by omega⟩:((cpyL (out++[(0,0,0)]) (r+1) r (min ((out.length+[(0,0,0)].length) -r) ((out.length+[(0,0,0)].length) -(r+1)))).set r ((qb a b_).getD i (0,(0,0))))=rcN (qb a b_) (i+1)∧(i+1)≤(qb a b_).length) (?_:(qb a b_).length-(i+1)<(qb a b_).length-i)))))))))))))))))))) (fun h43=>I (?_:out.length=out.length) ((((ZO hI.1 (by omega) hI.2).trans (if_neg (not_or.2 ⟨yd' h2,yd' h4⟩)).symm):out=qv a b_))))))))))⟩<;>omega)
abbrev VU:Ctr Tryz.prog:=FI.c VW
theorem NZ(r:Rat):minQ r r=r:=by unfold minQ;split<;>rfl
theorem NY(r:Rat):maxQ r r=r:=by unfold maxQ;split<;>rfl
theorem mn_1(x y:Rat):minQ x y≤x:=by unfold minQ;split<;>rename_i h<;>rw[A1]at h<;>grind
theorem mn_2(x y:Rat):minQ x y≤y:=by unfold minQ;split<;>rename_i h<;>rw[A1]at h<;>grind
theorem mx_1(x y:Rat):x≤maxQ x y:=by unfold maxQ;split<;>rename_i h<;>have:= @DB y x<;>grind
theorem mx_2(x y:Rat):y≤maxQ x y:=by unfold maxQ;split<;>rename_i h<;>have:= @DB y x<;>grind
abbrev Spn:=Rat×Rat
def bxN(f:V3→Rat)(l:List V3):Nat→Spn
 |0=>(f (l.getD 0 z3),f (l.getD 0 z3))
 |n+1=>(minQ (bxN f l n).1 (f ((l.drop 1).getD n z3)),maxQ (bxN f l n).2 (f ((l.drop 1).getD n z3)))
abbrev Box3:=Spn×Spn×Spn
def boxV(l:List V3):Box3:=(bxN (fun p=>p.1) l (l.drop 1).length,bxN (fun p=>p.2.1) l (l.drop 1).length,bxN (fun p=>p.2.2) l (l.drop 1).length)
def mtC(x y:Spn):Prop:= ¬0<cmpQ (maxQ x.1 y.1) (minQ x.2 y.2)
instance(x y:Spn):Decidable (mtC x y):=by unfold mtC;infer_instance
def mtV(x y:Spn):Spn:=if 0<cmpQ (maxQ x.1 y.1) (minQ x.2 y.2)then(0,0)else(maxQ x.1 y.1,minQ x.2 y.2)
def mtB(a b:Box3):Prop:=mtC a.1 b.1∧mtC a.2.1 b.2.1∧mtC a.2.2 b.2.2
instance(a b:Box3):Decidable (mtB a b):=by unfold mtB;infer_instance
abbrev aprt(a b:T3):Prop:= ¬mtB (boxV (lsT a)) (boxV (lsT b))
def axQ(c:Nat)(d:Rat):V3×Rat:=((if c=0 then 1 else 0,if c=1 then 1 else 0,if c=2 then 1 else 0),d)
theorem F8{c:Nat}(hc:c<3)(d:Rat)(p:V3):valP (axQ c d) p=cm p c-d:=by
 match c,hc with
 |0,_=>show(1*p.1+0*p.2.1+0*p.2.2) -d=p.1-d;grind
 |1,_=>show(0*p.1+1*p.2.1+0*p.2.2) -d=p.2.1-d;grind
 |2,_=>show(0*p.1+0*p.2.1+1*p.2.2) -d=p.2.2-d;grind
theorem Sw{l:List V3}{x:V3}(h:Hl l x){c:Nat}(hc:c<3){d:Rat}(hd: ∀p∈l,cm p c≤d):cm x c≤d:=by
 have:=h (axQ c d) fun p hp=>by rw[F8 hc];have:=hd p hp;grind
 rw[F8 hc]at this;grind
theorem Sv{l:List V3}{x:V3}(h:Hl l x){c:Nat}(hc:c<3){d:Rat}(hd: ∀p∈l,d≤cm p c):d≤cm x c:=by
 have:=h (ngQ (axQ c d)) fun p hp=>by rw[jq,F8 hc];have:=hd p hp;grind
 rw[jq,F8 hc]at this;grind
theorem bx3(f:V3→Rat)(t:T3): ∀p∈lsT t,(bxN f (lsT t) 2).1≤f p∧f p≤(bxN f (lsT t) 2).2:=by
 have e:bxN f (lsT t) 2=(minQ (minQ (f t.1) (f t.2.1)) (f t.2.2),maxQ (maxQ (f t.1) (f t.2.1)) (f t.2.2)):=rfl
 intro p hp
 rw[e]
 have m1:=mn_1 (f t.1) (f t.2.1);have m2:=mn_2 (f t.1) (f t.2.1);have m3:=mn_1 (minQ (f t.1) (f t.2.1)) (f t.2.2);have m4:=mn_2 (minQ (f t.1) (f t.2.1)) (f t.2.2)
 have x1:=mx_1 (f t.1) (f t.2.1);have x2:=mx_2 (f t.1) (f t.2.1);have x3:=mx_1 (maxQ (f t.1) (f t.2.1)) (f t.2.2);have x4:=mx_2 (maxQ (f t.1) (f t.2.1)) (f t.2.2)
 simp only[lsT,List.mem_cons,List.not_mem_nil,or_false]at hp
 rcases hp with rfl|rfl|rfl
 ·exact⟨Rat.le_trans m3 m1,Rat.le_trans x1 x3⟩
 ·exact⟨Rat.le_trans m3 m2,Rat.le_trans x2 x3⟩
 ·exact⟨m4,x4⟩
theorem YK{x y z:Rat}(h1:x≤z)(h2:y≤z):maxQ x y≤z:=by unfold maxQ;split<;>assumption
theorem le_min{x y z:Rat}(h1:z≤x)(h2:z≤y):z≤minQ x y:=by unfold minQ;split<;>assumption
theorem q1L{a b:T3}{x:V3}(ha:Hl (lsT a) x)(hb:Hl (lsT b) x):mtB (boxV (lsT a)) (boxV (lsT b)):=by
 have key: ∀(f:V3→Rat)(c:Nat),c<3→(∀p,cm p c=f p)→mtC (bxN f (lsT a) 2) (bxN f (lsT b) 2):=fun f c hc hf=>by
  have a1:=Sv ha hc (d:=(bxN f (lsT a) 2).1) fun p hp=>by rw[hf];exact(bx3 f a p hp).1
  have a2:=Sw ha hc (d:=(bxN f (lsT a) 2).2) fun p hp=>by rw[hf];exact(bx3 f a p hp).2
  have b1:=Sv hb hc (d:=(bxN f (lsT b) 2).1) fun p hp=>by rw[hf];exact(bx3 f b p hp).1
  have b2:=Sw hb hc (d:=(bxN f (lsT b) 2).2) fun p hp=>by rw[hf];exact(bx3 f b p hp).2
  unfold mtC
  have:=DB.2 (Rat.le_trans (YK a1 b1) (le_min a2 b2))
  omega
 exact⟨key _ 0 (by omega) fun p=>rfl,key _ 1 (by omega) fun p=>rfl,key _ 2 (by omega) fun p=>rfl⟩
theorem LL{a b:T3}(hb:qz b≠(0,0,0))(h:aprt a b):qv a b=[]:=by
 refine List.eq_nil_iff_forall_not_mem.2 fun x hx=>?_
 have hc:x∈qb a b:=by
  unfold qv at hx;split at hx
  ·cases hx
  ·exact CS hx
 have:=(PH hb).1 (Hl.mem hc)
 exact h (q1L this.1 this.2)
def shA(x:V3)(b:T3):List V3:=if x=b.1∨x=b.2.1∨x=b.2.2 then[x]else[]
def shP(a b:T3):List V3:=shA a.1 b++(shA a.2.1 b++shA a.2.2 b)
def one1(x y:V3):List V3:=if x=y then[x]else[]
def shB(x:V3)(b:T3):Nat→List V3
 |0=>[]
 |n+1=>shB x b n++one1 x (getT b n)
def shR(a b:T3):Nat→List V3
 |0=>[]
 |n+1=>shR a b n++shB (getT a n) b 3
def spP(l:List V3)(p:V3):Prop:=l.length=3∨p∈l∨(l.length=2∧insQ (l.getD 0 z3) (l.getD 1 z3) p)
def spR(l:List V3)(p:V3):Prop:=p∈l∨(l.length=2∧insQ (l.getD 0 z3) (l.getD 1 z3) p)
instance(l:List V3)(p:V3):Decidable (spP l p):=by unfold spP;infer_instance
instance(l:List V3)(p:V3):Decidable (spR l p):=by unfold spR;infer_instance
def crX(a b:T3):Prop:= ¬aprt a b∧ ∃p∈qv a b,¬spP (shP a b) p
def meX(a b:T3):Prop:= ¬3≤(shR a b 3).length∧ ∃p∈qv a b,¬spR (shR a b 3) p
instance(a b:T3):Decidable (crX a b):=by unfold crX;infer_instance
instance(a b:T3):Decidable (meX a b):=by unfold meX;infer_instance
theorem GC{t:T3}(h:qz t≠(0,0,0)):t.1≠t.2.1∧t.1≠t.2.2∧t.2.1≠t.2.2:=by
 refine⟨fun e=>h ?_,fun e=>h ?_,fun e=>h ?_⟩<;>unfold qz<;>rw[e]<;>unfold qc subV<;>refine Prod.ext ?_ (Prod.ext ?_ ?_)<;>simp only[]<;>grind
theorem Jy{x:V3}{b:T3}(h:b.1≠b.2.1∧b.1≠b.2.2∧b.2.1≠b.2.2):shB x b 3=shA x b:=by
 obtain⟨h1,h2,h3⟩:=h
 show(([]++one1 x b.1)++one1 x b.2.1)++one1 x b.2.2=_
 unfold one1 shA
 by_cases e1:x=b.1
 ·subst e1
  rw[if_pos rfl,if_neg h1,if_neg h2,if_pos (.inl rfl)];rfl
 ·by_cases e2:x=b.2.1
  ·subst e2
   rw[if_neg e1,if_pos rfl,if_neg h3,if_pos (.inr (.inl rfl))];rfl
  ·by_cases e3:x=b.2.2
   ·subst e3
    rw[if_neg e1,if_neg e2,if_pos rfl,if_pos (.inr (.inr rfl))];rfl
   ·rw[if_neg e1,if_neg e2,if_neg e3,if_neg (by rintro(e|e|e)<;>contradiction)];rfl
theorem q2a{a b:T3}(hb:qz b≠(0,0,0)):shR a b 3=shP a b:=by
 show(([]++shB a.1 b 3)++shB a.2.1 b 3)++shB a.2.2 b 3=_
 rw[Jy (GC hb),Jy (GC hb),Jy (GC hb)]
 unfold shP;simp
theorem Ls(a b:T3):(shP a b).length≤3:=by
 have h: ∀x,(shA x b).length≤1:=fun x=>by unfold shA;split<;>simp
 unfold shP
 rw[List.length_append,List.length_append]
 have:=h a.1;have:=h a.2.1;have:=h a.2.2;omega
theorem q1e{a b:T3}(hb:qz b≠(0,0,0)):crX a b↔meX a b:=by
 have hs:=q2a (a:=a) hb
 have hl:=Ls a b
 unfold crX meX
 rw[hs]
 by_cases hc:aprt a b
 ·rw[LL hb hc]
  exact⟨fun h=>absurd hc h.1,fun⟨_,p,hp,_⟩=>by cases hp⟩
 ·constructor
  ·rintro⟨_,p,hp,hn⟩
   exact⟨fun h3=>hn (.inl (by omega)),p,hp,fun h=>hn (.inr h)⟩
  ·rintro⟨h3,p,hp,hn⟩
   refine⟨hc,p,hp,?_⟩
   rintro(h|h)
   ·omega
   ·exact hn h
theorem q29{a b:T3}{m:Nat}(h:Bnd tT3 (bT3 m) a): ∀x∈shP a b,Bnd tV3 (bV3 m) x:=by
 have k: ∀y,Bnd tV3 (bV3 m) y→ ∀x∈shA y b,Bnd tV3 (bV3 m) x:=fun y hy x hx=>by
  unfold shA at hx;split at hx
  ·rw[List.mem_singleton.1 hx];exact hy
  ·cases hx
 intro x hx
 unfold shP at hx
 rcases List.mem_append.1 hx with hx|hx
 ·exact k _ h.1 x hx
 ·rcases List.mem_append.1 hx with hx|hx
  ·exact k _ h.2.1 x hx
  ·exact k _ h.2.2 x hx
section
abbrev Tri3:=Int×Int×Int
abbrev tTri:Ty:= .pr (.int .i64) (.pr (.int .i64) (.int .i64))
abbrev Msh:=List V3×List Tri3×List Int
abbrev tMsh:Ty:= .pr (.sl tV3) (.pr (.sl tTri) (.sl (.int .i64)))
abbrev bMsh:Bd:= .p (.s 64 (bV3 64)) (.p (.s 64 (.p (.n 1048576) (.p (.n 1048576) (.n 1048576)))) (.s 64 (.n 1048576)))
abbrev Dg:=Int×Int×Int×Int×Int
abbrev tDg:Ty:= .pr (.int .i64) (.pr (.int .i64) (.pr (.int .i64) (.pr (.int .i64) (.int .i64))))
abbrev bDg:Bd:= .p (.n 64) (.p (.n 1) (.p (.n 1048576) (.p (.n 1) (.n 1048576))))
def triA(m:Msh)(i:Nat):Tri3:=m.2.1.getD i (0,(0,0))
theorem BK{m:Msh}(h:Bnd tMsh bMsh m)(i:Nat):Int.natAbs (m.2.1.getD i (0,(0,0))).1≤1048576∧Int.natAbs (m.2.1.getD i (0,(0,0))).2.1≤1048576∧Int.natAbs (m.2.1.getD i (0,(0,0))).2.2≤1048576:=by
 by_cases e:i<m.2.1.length
 ·have:=h.2.1.2 _ (List.getElem_mem e)
  rw[qE e];exact this
 ·rw[List.getD_eq_getElem?_getD,List.getElem?_eq_none (by omega)];exact⟨by decide,by decide,by decide⟩
def inR(n:Nat)(t:Tri3):Prop:=(0≤t.1∧t.1<(n:Int))∧(0≤t.2.1∧t.2.1<(n:Int))∧(0≤t.2.2∧t.2.2<(n:Int))
instance(n:Nat)(t:Tri3):Decidable (inR n t):=by unfold inR;infer_instance
def qQ(p:List V3)(t:Tri3):T3:=(p.getD t.1.toNat (0,(0,0)),p.getD t.2.1.toNat (0,(0,0)),p.getD t.2.2.toNat (0,(0,0)))
theorem vU{p:List V3}{m:Nat}(h: ∀x∈p,Bnd tV3 (bV3 m) x)(t:Tri3):Bnd tT3 (bT3 m) (qQ p t):=⟨vM h _,vM h _,vM h _⟩
def badN(m:Msh):Nat→List Dg
 |0=>[]
 |n+1=>badN m n++(if inR m.1.length (triA m n)then[]else[(1,-1,((n:Nat):Int),-1,-1)])
def thnN(m:Msh):Nat→List Dg
 |0=>[]
 |n+1=>thnN m n++(if qz (qQ m.1 (triA m n))=(0,0,0)then[(9,-1,((n:Nat):Int),-1,-1)]else[])
def op1(c:Int→Int→Bool)(n:Nat)(k a b:Int):List Dg:=if c a b=true then[(30,-1,((n:Nat):Int),-1,k)]else[]
def opnN(c:Int→Int→Bool)(m:Msh):Nat→List Dg
 |0=>[]
 |n+1=>((opnN c m n++op1 c n 0 (triA m n).1 (triA m n).2.1)++op1 c n 1 (triA m n).2.1 (triA m n).2.2)++op1 c n 2 (triA m n).2.2 (triA m n).1
theorem op_y{c:Int→Int→Bool}{n:Nat}{k a b:Int}{l:List Dg}(h:c a b=true):l++[(30,-1,((n:Nat):Int),-1,k)]=l++op1 c n k a b:=by unfold op1;rw[if_pos h]
theorem op_n{c:Int→Int→Bool}{n:Nat}{k a b:Int}{l:List Dg}(h: ¬c a b=true):l=l++op1 c n k a b:=by unfold op1;rw[if_neg h,List.append_nil]
theorem vp{c:Int→Int→Bool}{m:Msh}{n:Nat}{l l1 l2 l3:List Dg}(h:l=opnN c m n)(h1:l1=l++op1 c n 0 (triA m n).1 (triA m n).2.1)(h2:l2=l1++op1 c n 1 (triA m n).2.1 (triA m n).2.2)(h3:l3=l2++op1 c n 2 (triA m n).2.2 (triA m n).1):l3=opnN c m (n+1):=by
 rw[opnN,h3,h2,h1,h]
theorem Sa{m:Msh}{n:Nat}{l:List Dg}(h:l=badN m n)(hr: ¬inR m.1.length (triA m n)):l++[(1,-1,((n:Nat):Int),-1,-1)]=badN m (n+1):=by rw[badN,h,if_neg hr]
theorem S9{m:Msh}{n:Nat}{l:List Dg}(h:l=badN m n)(hr:inR m.1.length (triA m n)):l=badN m (n+1):=by rw[badN,h,if_pos hr,List.append_nil]
theorem T5{m:Msh}{n:Nat}{l:List Dg}(h:l=thnN m n)(hr:qz (qQ m.1 (triA m n))=(0,0,0)):l++[(9,-1,((n:Nat):Int),-1,-1)]=thnN m (n+1):=by rw[thnN,h,if_pos hr]
theorem T4{m:Msh}{n:Nat}{l:List Dg}(h:l=thnN m n)(hr: ¬qz (qQ m.1 (triA m n))=(0,0,0)):l=thnN m (n+1):=by rw[thnN,h,if_neg hr,List.append_nil]
theorem BS(m:Msh): ∀n,(badN m n).length≤n
 |0=>Nat.le_refl 0
 |n+1=>by have:=BS m n;rw[badN,List.length_append];split<;>simp<;>omega
theorem Cs(m:Msh): ∀n,(thnN m n).length≤n
 |0=>Nat.le_refl 0
 |n+1=>by have:=Cs m n;rw[thnN,List.length_append];split<;>simp<;>omega
theorem GF(c:Int→Int→Bool)(n:Nat)(k a b:Int):(op1 c n k a b).length≤1:=by unfold op1;split<;>simp
theorem Ck(c:Int→Int→Bool)(m:Msh): ∀n,(opnN c m n).length≤3*n
 |0=>Nat.le_refl 0
 |n+1=>by
  have:=Ck c m n
  have:=GF c n 0 (triA m n).1 (triA m n).2.1;have:=GF c n 1 (triA m n).2.1 (triA m n).2.2;have:=GF c n 2 (triA m n).2.2 (triA m n).1
  rw[opnN,List.length_append,List.length_append,List.length_append];omega
def szM(m:Msh):Prop:=4096<m.2.1.length∨m.2.2.length≠m.2.1.length
instance(m:Msh):Decidable (szM m):=by unfold szM;infer_instance
def mkV(o:List Dg)(m:Msh):List Dg:=if szM m then[(2,-1,-1,-1,-1)]else if 0<(badN m m.2.1.length).length then badN m m.2.1.length else if 0<(thnN m m.2.1.length).length then thnN m m.2.1.length else o
section
variable {o:List Dg} {m:Msh} {l:List Dg} {i:Nat}
theorem HW(h:szM m):[(2,-1,-1,-1,-1)]=mkV o m:=by unfold mkV;rw[if_pos h]
theorem Sd(h: ¬szM m)(e:l=badN m i)(hi: ¬i<m.2.1.length)(hl:i≤m.2.1.length)(h2:0<l.length):l=mkV o m:=by
 have:i=m.2.1.length:=by omega
 subst this;unfold mkV;rw[if_neg h,←e,if_pos h2]
theorem Se{k:List Dg}{j:Nat}(h: ¬szM m)(e:l=badN m i)(hi: ¬i<m.2.1.length)(hl:i≤m.2.1.length)(h2: ¬0<l.length)(e2:k=thnN m j)(hj: ¬j<m.2.1.length)(hk:j≤m.2.1.length)(h3:0<k.length):k=mkV o m:=by
 have:i=m.2.1.length:=by omega
 subst this
 have:j=m.2.1.length:=by omega
 subst this;unfold mkV;rw[if_neg h,←e,if_neg h2,←e2,if_pos h3]
theorem q18{k:List Dg}{j:Nat}(h: ¬szM m)(e:l=badN m i)(hi: ¬i<m.2.1.length)(hl:i≤m.2.1.length)(h2: ¬0<l.length)(e2:k=thnN m j)(hj: ¬j<m.2.1.length)(hk:j≤m.2.1.length)(h3: ¬0<k.length):o=mkV o m:=by
 have:i=m.2.1.length:=by omega
 subst this
 have:j=m.2.1.length:=by omega
 subst this;unfold mkV;rw[if_neg h,←e,if_neg h2,←e2,if_neg h3]
end
def z0(m:Msh):Prop:= ¬szM m∧(∀i,i<m.2.1.length→inR m.1.length (triA m i))∧ ∀i,i<m.2.1.length→qz (qQ m.1 (triA m i))≠(0,0,0)
theorem BT{m:Msh}: ∀{n},badN m n=[]↔ ∀i,i<n→inR m.1.length (triA m i)
 |0=>⟨fun _ i h=>absurd h (Nat.not_lt_zero i),fun _=>rfl⟩
 |n+1=>by
  rw[badN,List.append_eq_nil_iff,BT]
  constructor
  ·rintro⟨h1,h2⟩ i hi
   by_cases e:i=n
   ·subst e
    by_cases g:inR m.1.length (triA m i)
    ·exact g
    ·rw[if_neg g]at h2;cases h2
   ·exact h1 i (by omega)
  ·intro h
   exact⟨fun i hi=>h i (by omega),if_pos (h n (by omega))⟩
theorem ES{m:Msh}: ∀{n},thnN m n=[]↔ ∀i,i<n→qz (qQ m.1 (triA m i))≠(0,0,0)
 |0=>⟨fun _ i h=>absurd h (Nat.not_lt_zero i),fun _=>rfl⟩
 |n+1=>by
  rw[thnN,List.append_eq_nil_iff,ES]
  constructor
  ·rintro⟨h1,h2⟩ i hi
   by_cases e:i=n
   ·subst e
    intro g
    rw[if_pos g]at h2;cases h2
   ·exact h1 i (by omega)
  ·intro h
   exact⟨fun i hi=>h i (by omega),if_neg (h n (by omega))⟩
theorem Im{m:Msh}: ∀{n},∀x∈badN m n,x.1=1
 |0,x,h=>by cases h
 |n+1,x,h=>by
  rw[badN]at h
  rcases List.mem_append.1 h with h|h
  ·exact Im x h
  ·split at h
   ·cases h
   ·rw[List.mem_singleton.1 h]
theorem JD{m:Msh}: ∀{n},∀x∈thnN m n,x.1=9
 |0,x,h=>by cases h
 |n+1,x,h=>by
  rw[thnN]at h
  rcases List.mem_append.1 h with h|h
  ·exact JD x h
  ·split at h
   ·rw[List.mem_singleton.1 h]
   ·cases h
theorem Mn{c:Int→Int→Bool}{n:Nat}{k a b:Int}: ∀x∈op1 c n k a b,x.1=30:=fun x h=>by
 unfold op1 at h;split at h
 ·rw[List.mem_singleton.1 h]
 ·cases h
theorem w5{c:Int→Int→Bool}{m:Msh}: ∀{n},∀x∈opnN c m n,x.1=30
 |0,x,h=>by cases h
 |n+1,x,h=>by
  rw[opnN]at h
  rcases List.mem_append.1 h with h|h
  ·rcases List.mem_append.1 h with h|h
   ·rcases List.mem_append.1 h with h|h
    ·exact w5 x h
    ·exact Mn x h
   ·exact Mn x h
  ·exact Mn x h
theorem Bv{l:List Dg}{k:Int}(h: ∀x∈l,x.1=k)(hl:0<l.length):(l.getD 0 (0,(0,(0,(0,0))))).1=k:=by
 rw[qE hl];exact h _ (List.getElem_mem hl)
theorem CK{o:List Dg}{m:Msh}(ho: ∀x∈o,x.1=30):z0 m↔ ¬(0<(mkV o m).length∧((mkV o m).getD 0 (0,(0,(0,(0,0))))).1≠30):=by
 unfold z0 mkV
 by_cases h:szM m
 ·rw[if_pos h]
  exact⟨fun g=>absurd h g.1,fun g=>absurd ⟨by decide,by decide⟩ g⟩
 ·rw[if_neg h]
  by_cases h2:0<(badN m m.2.1.length).length
  ·rw[if_pos h2,Bv Im h2]
   refine⟨fun g=>?_,fun g=>absurd ⟨h2,by decide⟩ g⟩
   rw[BT.2 g.2.1]at h2;exact absurd h2 (Nat.lt_irrefl 0)
  ·rw[if_neg h2]
   have b1:=BT.1 (List.eq_nil_of_length_eq_zero (Nat.eq_zero_of_not_pos h2))
   by_cases h3:0<(thnN m m.2.1.length).length
   ·rw[if_pos h3,Bv JD h3]
    refine⟨fun g=>?_,fun g=>absurd ⟨h3,by decide⟩ g⟩
    rw[ES.2 g.2.2]at h3;exact absurd h3 (Nat.lt_irrefl 0)
   ·rw[if_neg h3]
    refine⟨fun _ g=>g.2 (Bv ho g.1),fun _=>⟨h,b1,ES.1 (List.eq_nil_of_length_eq_zero (Nat.eq_zero_of_not_pos h3))⟩⟩
def vn(l:List Dg):Int:=if l.length=0 then 0 else(l.getD 0 (0,(0,(0,(0,0))))).1
theorem DP{o:List Dg}{m:Msh}(ho: ∀x∈o,x.1=30):z0 m↔ ¬(vn (mkV o m)≠0∧vn (mkV o m)≠30):=by
 rw[CK ho]
 unfold vn
 by_cases h:(mkV o m).length=0
 ·rw[if_pos h]
  exact⟨fun _ g=>g.1 rfl,fun _ g=>by have:=g.1;omega⟩
 ·rw[if_neg h]
  constructor
  ·intro g1 g2;exact g1 ⟨by omega,g2.2⟩
  ·intro g1 g2
   refine g1 ⟨fun e=>?_,g2.2⟩
   have hp:=g2.1
   unfold mkV at e hp
   split at e
   ·exact absurd e (by decide)
   ·rename_i hz
    rw[if_neg hz]at hp
    split at e
    ·rename_i h2
     rw[Bv Im h2]at e;exact absurd e (by decide)
    ·rename_i h2
     rw[if_neg h2]at hp
     split at e
     ·rename_i h3;rw[Bv JD h3]at e;exact absurd e (by decide)
     ·rename_i h3
      rw[if_neg h3]at hp
      rw[Bv ho hp]at e;exact absurd e (by decide)
abbrev inc1(L:List KV)(k:Int×Int):List KV:=setM (entM L k) (idxM L k) (getM L k+1)
def edN(m:Msh):Nat→List KV
 |0=>[]
 |n+1=>inc1 (inc1 (inc1 (edN m n) ((triA m n).1,(triA m n).2.1)) ((triA m n).2.1,(triA m n).2.2)) ((triA m n).2.2,(triA m n).1)
structure MB (L:List KV) (k:Nat):Prop where
 l:L.length≤k
 v: ∀p∈L,p.2.natAbs≤k
theorem PU(L:List KV)(k:Int×Int):(entM L k).length≤L.length+1:=by
 induction L with
 |nil=>exact Nat.le_refl 1
 |cons p L ih=>rw[entM];split<;>simp<;>omega
theorem Y4{L:List KV}{q:Int×Int}{k:Nat}(h: ∀p∈L,p.2.natAbs≤k): ∀p∈entM L q,p.2.natAbs≤k:=by
 induction L with
 |nil=>intro p hp;rw[entM]at hp;rw[List.mem_singleton.1 hp];exact Nat.zero_le _
 |cons x L ih=>
  intro p hp
  rw[entM]at hp
  split at hp
  ·exact h p hp
  ·rcases List.mem_cons.1 hp with e|e
   ·subst e;exact h p List.mem_cons_self
   ·exact ih (fun p hp=>h p (List.mem_cons_of_mem _ hp)) p e
theorem MB.inc{L:List KV}{k:Nat}(h:MB L k)(q:Int×Int):MB (inc1 L q) (k+1):=by
 refine⟨by rw[EP];have:=PU L q;have:=h.l;omega,fun p hp=>?_⟩
 rcases Cp hp with h1|⟨e,_⟩
 ·have:=Y4 (q:=q) h.v p h1;omega
 ·have:=CZ (k:=q) h.v;rw[e];omega
theorem DK(q:Int×Int): ∀L:List KV,idxM L q<(entM L q).length
 |[]=>Nat.zero_lt_one
 |p::L=>by
  rw[idxM,entM];split
  ·simp
  ·have:=DK q L;simp;omega
theorem KT(q:Int×Int): ∀L:List KV,idxM L q≤L.length
 |[]=>Nat.le_refl 0
 |p::L=>by
  rw[idxM];split
  ·exact Nat.zero_le _
  ·have:=KT q L;simp;omega
theorem MB.idx{L:List KV}{k n:Nat}{q:Int×Int}(h:MB L k)(hn:k≤n):idxM L q≤n:=by have:=KT q L;have:=h.l;omega
theorem MB.get{L:List KV}{k n:Nat}{q:Int×Int}(h:MB L k)(hn:k+1≤n):Int.natAbs (getM L q+1)≤n:=by have:=CZ (k:=q) h.v;omega
theorem LV(m:Msh): ∀n,MB (edN m n) (3*n)
 |0=>⟨Nat.le_refl 0,fun p h=>(by cases h)⟩
 |n+1=>by have:=(((LV m n).inc ((triA m n).1,(triA m n).2.1)).inc ((triA m n).2.1,(triA m n).2.2)).inc ((triA m n).2.2,(triA m n).1);exact this
theorem IU{m:Nat}{L:List KV}{k:Int×Int}(h:MOk m L)(h1:k.1.natAbs≤4611686018427387904)(h2:k.2.natAbs≤4611686018427387904)(hv:(getM L k+1).natAbs≤m):MOk m (inc1 L k):=Lo (Gk h h1 h2).1 hv
theorem Nx{m:Msh}(h:Bnd tMsh bMsh m): ∀n,3*n≤1048575→MOk 1048576 (edN m n)
 |0,_=>MOk.nil _
 |n+1,hn=>by
  have ih:=Nx h n (by omega)
  have b:=BK h n
  have e:=LV m n
  have l: ∀{z:Int},z.natAbs≤1048576→z.natAbs≤4611686018427387904:=fun h=>Nat.le_trans h (by decide)
  exact IU (IU (IU ih (l b.1) (l b.2.1) (e.get (by omega))) (l b.2.1) (l b.2.2) ((e.inc _).get (by omega))) (l b.2.2) (l b.1) (((e.inc _).inc _).get (by omega))
abbrev edM(m:Msh):List KV:=edN m m.2.1.length
abbrev cP(m:Msh):Int→Int→Bool:=fun a b=>decide (getM (edM m) (b,a)<getM (edM m) (a,b))
abbrev mkP(m:Msh):List Dg:=mkV (opnN (cP m) m m.2.1.length) m
def tm1(x y a b:Int):Nat:=if x=a∧y=b then 1 else 0
def timN(m:Msh)(a b:Int):Nat→Nat
 |0=>0
 |n+1=>timN m a b n+tm1 (triA m n).1 (triA m n).2.1 a b+tm1 (triA m n).2.1 (triA m n).2.2 a b+tm1 (triA m n).2.2 (triA m n).1 a b
theorem tm_y{x y a b:Int}{n:Nat}(h:x=a)(k:y=b):n+1=n+tm1 x y a b:=by unfold tm1;rw[if_pos ⟨h,k⟩]
theorem tm_1{x y a b:Int}{n:Nat}(h: ¬x=a):n=n+tm1 x y a b:=by unfold tm1;rw[if_neg (fun e=>h e.1)];rfl
theorem tm_2{x y a b:Int}{n:Nat}(h: ¬y=b):n=n+tm1 x y a b:=by unfold tm1;rw[if_neg (fun e=>h e.2)];rfl
theorem jg{m:Msh}{a b:Int}{n t t1 t2 t3:Nat}(h:t=timN m a b n)(h1:t1=t+tm1 (triA m n).1 (triA m n).2.1 a b)(h2:t2=t1+tm1 (triA m n).2.1 (triA m n).2.2 a b)(h3:t3=t2+tm1 (triA m n).2.2 (triA m n).1 a b):t3=timN m a b (n+1):=by
 rw[timN,h3,h2,h1,h]
theorem GV(m:Msh)(a b:Int): ∀n,timN m a b n≤3*n
 |0=>Nat.le_refl 0
 |n+1=>by
  have:=GV m a b n
  have k: ∀x y,tm1 x y a b≤1:=fun x y=>by unfold tm1;split<;>omega
  have:=k (triA m n).1 (triA m n).2.1;have:=k (triA m n).2.1 (triA m n).2.2;have:=k (triA m n).2.2 (triA m n).1
  rw[timN];omega
abbrev timM(m:Msh)(a b:Int):Nat:=timN m a b m.2.1.length
abbrev cR(m:Msh):Int→Int→Bool:=fun a b=>decide (timM m b a<timM m a b)
abbrev mkR(m:Msh):List Dg:=mkV (opnN (cR m) m m.2.1.length) m
theorem dg_b{k f e:Int}(hk:k.natAbs≤64)(hf:f.natAbs≤1048576)(he:e.natAbs≤1048576):Bnd tDg bDg (k,-1,f,-1,e):=⟨hk,(by decide:Int.natAbs (-1)≤1),hf,(by decide:Int.natAbs (-1)≤1),he⟩
theorem F6{l r:List Dg}(h: ∀x∈l,Bnd tDg bDg x)(k: ∀x∈r,Bnd tDg bDg x): ∀x∈l++r,Bnd tDg bDg x:=fun x hx=>(List.mem_append.1 hx).elim (h x) (k x)
theorem N3(m:Msh): ∀n,n≤1048576→ ∀x∈badN m n,Bnd tDg bDg x
 |0,_,x,h=>by cases h
 |n+1,hn,x,h=>F6 (N3 m n (by omega)) (fun x h=>by
   split at h
   ·cases h
   ·rw[List.mem_singleton.1 h];exact dg_b (by decide) (by omega) (by decide)) x h
theorem P4(m:Msh): ∀n,n≤1048576→ ∀x∈thnN m n,Bnd tDg bDg x
 |0,_,x,h=>by cases h
 |n+1,hn,x,h=>F6 (P4 m n (by omega)) (fun x h=>by
   split at h
   ·rw[List.mem_singleton.1 h];exact dg_b (by decide) (by omega) (by decide)
   ·cases h) x h
theorem Mm{c:Int→Int→Bool}{n:Nat}{k a b:Int}(hn:n≤1048576)(hk:k.natAbs≤1048576): ∀x∈op1 c n k a b,Bnd tDg bDg x:=fun x h=>by
 unfold op1 at h;split at h
 ·rw[List.mem_singleton.1 h];exact dg_b (by decide) (by omega) hk
 ·cases h
theorem Oy(c:Int→Int→Bool)(m:Msh): ∀n,n≤1048576→ ∀x∈opnN c m n,Bnd tDg bDg x
 |0,_,x,h=>by cases h
 |n+1,hn,x,h=>F6 (F6 (F6 (Oy c m n (by omega)) (Mm (by omega) (by decide))) (Mm (by omega) (by decide))) (Mm (by omega) (by decide)) x h
theorem q1G{o:List Dg}{m:Msh}(hm:m.2.1.length≤64)(ho:o.length≤192)(h: ∀x∈o,Bnd tDg bDg x):Bnd (.sl tDg) (.s 192 bDg) (mkV o m):=by
 have b1:=BS m m.2.1.length;have b2:=Cs m m.2.1.length
 unfold mkV
 split
 ·exact⟨(by decide:1≤192),fun x hx=>by rw[List.mem_singleton.1 hx];exact dg_b (by decide) (by decide) (by decide)⟩
 ·split
  ·exact⟨by omega,N3 m _ (by omega)⟩
  ·split
   ·exact⟨by omega,P4 m _ (by omega)⟩
   ·exact⟨ho,h⟩
theorem Gx{c:Int→Int→Bool}{m:Msh}(h:Bnd tMsh bMsh m):Bnd (.sl tDg) (.s 192 bDg) (mkV (opnN c m m.2.1.length) m):=
 q1G h.2.1.1 (by have:=Ck c m m.2.1.length;have:=h.2.1.1;omega) (Oy c m _ (by have:=h.2.1.1;omega))
def srJ(X:Nat→Nat→Bool)(i:Nat):Nat→Nat→Nat×Nat×Bool
 |_,0=>(0,0,false)
 |j,k+1=>if X i j=true then(i,j,true)else srJ X i (j+1) k
def srI(X:Nat→Nat→Bool)(n:Nat):Nat→Nat→Nat×Nat×Bool
 |_,0=>(0,0,false)
 |i,k+1=>if(srJ X i (i+1) (n-(i+1))).2.2=true then srJ X i (i+1) (n-(i+1))else srI X n (i+1) k
section
variable {X Y:Nat→Nat→Bool} {n i j:Nat}
theorem Ic(h:srJ X i j (n-j)=srJ X i (i+1) (n-(i+1)))(hj:j<n)(hx: ¬X i j=true):srJ X i (j+1) (n-(j+1))=srJ X i (i+1) (n-(i+1)):=by
 rw[show n-j=(n-(j+1))+1 by omega,srJ,if_neg hx]at h;exact h
theorem T0(h:srI X n i (n-i)=srI X n 0 n)(hi:i<n)(g:srJ X i j (n-j)=srJ X i (i+1) (n-(i+1)))(hj:j<n)(hx:X i j=true):(i,j,true)=srI X n 0 n:=by
 rw[show n-j=(n-(j+1))+1 by omega,srJ,if_pos hx]at g
 rw[show n-i=(n-(i+1))+1 by omega,srI,←g,if_pos rfl]at h
 exact h
theorem Ib(h:srI X n i (n-i)=srI X n 0 n)(hi:i<n)(g:srJ X i j (n-j)=srJ X i (i+1) (n-(i+1)))(hj: ¬j<n):srI X n (i+1) (n-(i+1))=srI X n 0 n:=by
 rw[show n-j=0 by omega,srJ]at g
 rw[show n-i=(n-(i+1))+1 by omega,srI,←g,if_neg (by decide)]at h
 exact h
theorem SZ(h:srI X n i (n-i)=srI X n 0 n)(hi: ¬i<n):(0,0,false)=srI X n 0 n:=by
 rw[show n-i=0 by omega,srI]at h;exact h
theorem T2(hn: ∀j,j<n→X i j=Y i j): ∀k j,j+k≤n→srJ X i j k=srJ Y i j k
 |0,j,_=>rfl
 |k+1,j,h=>by rw[srJ,srJ,hn j (by omega),T2 hn k (j+1) (by omega)]
theorem SY(hn: ∀i,i<n→ ∀j,j<n→X i j=Y i j): ∀k i,i+k≤n→srI X n i k=srI Y n i k
 |0,i,_=>rfl
 |k+1,i,h=>by rw[srI,srI,T2 (hn i (by omega)) (n-(i+1)) (i+1) (by omega),SY hn k (i+1) (by omega)]
theorem T1: ∀k j,(srJ X i j k).1≤i+j+k∧(srJ X i j k).2.1≤i+j+k
 |0,j=>⟨Nat.zero_le _,Nat.zero_le _⟩
 |k+1,j=>by
  rw[srJ];split
  ·exact⟨by simp only[];omega,by simp only[];omega⟩
  ·have:=T1 k (j+1);omega
theorem SX: ∀k i,(srI X n i k).1≤2*i+2*k+2+n∧(srI X n i k).2.1≤2*i+2*k+2+n
 |0,i=>⟨Nat.zero_le _,Nat.zero_le _⟩
 |k+1,i=>by
  rw[srI];split
  ·have:=T1 (X:=X) (i:=i) (n-(i+1)) (i+1);omega
  ·have:=SX k (i+1);omega
end
def metV(X:T3→T3→Prop)[∀a b,Decidable (X a b)](m:Msh):Nat×Nat×Bool:=srI (fun i j=>decide (X (qQ m.1 (triA m i)) (qQ m.1 (triA m j)))) m.2.1.length 0 m.2.1.length
instance(m:Msh):Decidable (szM m):=by unfold szM;infer_instance
def metP(m:Msh):Nat×Nat×Bool:=if 0<(mkP m).length∧((mkP m).getD 0 (0,(0,(0,(0,0))))).1≠30 then(0,0,false)else metV crX m
def metR(m:Msh):Nat×Nat×Bool:=if vn (mkR m)≠0∧vn (mkR m)≠30 then(0,0,false)else metV meX m
theorem NV{X:T3→T3→Prop}[∀a b,Decidable (X a b)]{m:Msh}(h:m.2.1.length≤64):(metV X m).1≤1048576∧(metV X m).2.1≤1048576:=by
 unfold metV
 have:=SX (X:=fun i j=>decide (X (qQ m.1 (triA m i)) (qQ m.1 (triA m j)))) (n:=m.2.1.length) m.2.1.length 0
 omega
theorem NT{m:Msh}(h:m.2.1.length≤64):(metP m).1≤1048576∧(metP m).2.1≤1048576:=by
 unfold metP;split
 ·exact⟨Nat.zero_le _,Nat.zero_le _⟩
 ·exact NV h
theorem NU{m:Msh}(h:m.2.1.length≤64):(metR m).1≤1048576∧(metR m).2.1≤1048576:=by
 unfold metR;split
 ·exact⟨Nat.zero_le _,Nat.zero_le _⟩
 ·exact NV h
theorem EF(m:Msh):metP m=metR m:=by
 have k1:=CK (o:=opnN (cP m) m m.2.1.length) (m:=m) w5
 have k2:=DP (o:=opnN (cR m) m m.2.1.length) (m:=m) w5
 unfold metP metR
 by_cases h:z0 m
 ·rw[if_neg (k1.1 h),if_neg (k2.1 h)]
  unfold metV
  refine SY (fun i hi j hj=>?_) _ _ (by omega)
  exact decide_eq_decide.2 (q1e (h.2.2 j hj))
 ·rw[if_pos (Decidable.not_not.1 (fun g=>h (k1.2 g))),if_pos (Decidable.not_not.1 (fun g=>h (k2.2 g)))]
end
def vH(K:Nat)(k:Option Nat)(l:List Nat):Bool:=!memN K l&&(match k with|some k=>!memN k l|none=>true)
theorem zm{K:Nat}{k:Option Nat}{l:List Nat}(h:vH K k l=true):K∉l∧ ∀k0,k=some k0→k0∉l:=by
 unfold vH at h
 simp only[Bool.and_eq_true,Bool.not_eq_true']at h
 refine⟨fun hm=>by rw[jL.2 hm]at h;exact absurd h.1 (by simp),fun k0 e hm=>?_⟩
 subst e
 have:=h.2
 simp only[Bool.not_eq_true']at this
 rw[jL.2 hm]at this;cases this
def BF(st:WSt)(kb K:Nat)(k:Option Nat):Bool:=
 Nat.blt K 100000&&qV st.m&&qV st.L&&!Nat.beq kb K&&!(match k with|some k=>Nat.beq kb k|none=>false)&&(look st.rL kb).isNone&&
  st.rm.all (fun p=>vH K k p.2.ids)&&st.rL.all (fun p=>renL K k p)
def vg(st:WSt)(kb K:Nat)(k:Option Nat)(cs:List WA)(B:WB):WSt:=
 ⟨st.rm,st.m.filter (fun p=>vH K k p.2.ids),st.rL,(K,B)::(kb,.rig cs)::st.L.filter (fun p=>!Nat.beq p.1 kb&&renL K k p)⟩
def renB(kb i K:Nat)(t:Ty)(b:Bd)(st:WSt):Option WSt:=
 match look st.L kb with
 |some (.rig l)=>match l.drop i with
  | .gs k n w nb::post=>bif Nat.beq k K then some st else(match look st.L k with
   |some (.gro t' b' xs)=>bif BF st kb K (some k)&&(vH K (some k) (WAs.ids (l.take i))&&vH K (some k) (WAs.ids post))then some (vg st kb K (some k) (l.take i++ .gs K n w nb::post) (.gro t' b' xs))else none
   |_=>none)
  |a::post=>bif jB a&&(BF st kb K none&&(vH K none (WAs.ids (l.take i))&&vH K none (WAs.ids post)))then some (vg st kb K none (l.take i++ .gs K 0 t.w 0::post) (.gro t b []))else none
  |[]=>none
 |_=>none
theorem EN{β β':Bm}{H:Heap}{x x':Atom}{b:List Atom}(hb: ∀q,menL q b=true→β' q=β q)(hx: ∀u,x.sat β H u→x'.sat β' H u):
  ∀{a:List Atom},(∀q,menL q a=true→β' q=β q)→ ∀{vs:List Value},Sats β H (a++x::b) vs→Sats β' H (a++x'::b) vs
 |[],_,_::_,h=>⟨hx _ h.1,Sats.congr (Heap.Le.refl _) hb h.2⟩
 |[],_,[],h=>h.elim
 |y::a,ha,v::vs,h=>⟨Atom.sat_congr (Heap.Le.refl _) (fun k hk=>ha k (by simp[menL,hk])) h.1,EN hb hx (fun k hk=>ha k (by simp[menL,hk])) h.2⟩
 |_::_,_,[],h=>h.elim
theorem vW(pre post:List WA)(a:WA)(x:Atom)(h:a.exp=[x]):WAs.exp (pre++a::post)=WAs.exp pre++x::WAs.exp post:=by
 rw[WAs.exp_app];congr 1
 show a.exp++_=_
 rw[h];rfl
theorem Hc{n:Nat}{Ks:List Nat}{st:WSt}(hk:st.Ok){kb K:Nat}{k:Option Nat}{pre post:List WA}{a0:WA}{t:Ty}{b0:Bd}{l:List t.den}(hr:BF st kb K k=true){m w nb:Nat}(hm:m≤nb)(hB:(WB.gro t b0 l).ok)
  (hbox:look st.L kb=some (.rig (pre++a0::post)))(f1:vH K k (WAs.ids pre)=true)(f2:vH K k (WAs.ids post)=true)
  (hold:(∃k0,k=some k0∧k0≠K∧a0= .gs k0 m w nb∧look st.L k0=some (.gro t b0 l))∨(k=none∧m=0∧l=[]∧a0= .vl (.slice none 0 0))):
  EntW n Ks st (vg st kb K k (pre++ .gs K m w nb::post) (.gro t b0 l))∧(vg st kb K k (pre++ .gs K m w nb::post) (.gro t b0 l)).Ok:=by
 unfold BF at hr
 simp only[Bool.and_eq_true,List.all_eq_true]at hr
 obtain⟨⟨⟨⟨⟨⟨⟨r0,r1⟩,r2⟩,r6⟩,r7⟩,r3⟩,r4⟩,r5⟩:=hr
 have r0:K<100000:=by simpa using r0
 have r6:kb≠K:=fun e=>by subst e;simp at r6
 have r7: ∀k0,k=some k0→kb≠k0:=fun k0 h e=>by subst h e;simp at r7
 have r3:look st.rL kb=none:=Option.isNone_iff_eq_none.1 r3
 generalize hcs:pre++WA.gs K m w nb::post=cs
 have hboxL:qe st kb=some (.rig (pre++a0::post)):=by unfold qe;rw[hbox]
 have hslot: ∀t v',qp (vg st kb K k cs (.gro _ b0 l)) t=some v'→qp st t=some v'∧K∉v'.ids:=by
  intro t v' h
  unfold qp vg at h
  simp only at h
  cases hf:look (st.m.filter (fun p=>vH K k p.2.ids)) t with
  |some x=>
   rw[hf]at h;simp at h;subst h
   obtain⟨h1,h2⟩:=jT r1 hf
   exact⟨by unfold qp;rw[h1],(zm h2).1⟩
  |none=>
   rw[hf]at h;simp only at h
   refine⟨?_,(zm (r4 _ (qA h))).1⟩
   unfold qp;rw[hk.dm t (by rw[h];simp)];exact h
 have hblk: ∀q b',qe (vg st kb K k cs (.gro _ b0 l)) q=some b'→(q=K∧b'= .gro _ b0 l)∨(q=kb∧b'= .rig cs)∨(q≠K∧q≠kb∧qe st q=some b'∧K∉b'.ids∧ ∀k0,k=some k0→q≠k0):=by
  intro q b' h
  unfold qe vg at h
  simp only[look]at h
  by_cases e:K=q
  ·subst e;simp at h;exact .inl ⟨rfl,h.symm⟩
  ·rw[beqF e]at h;simp only[cond_false]at h
   by_cases e2:kb=q
   ·subst e2;simp at h;exact .inr (.inl ⟨rfl,h.symm⟩)
   ·rw[beqF e2]at h;simp only[cond_false]at h
    refine .inr (.inr ⟨fun e'=>e e'.symm,fun e'=>e2 e'.symm,?_⟩)
    cases hf:look (st.L.filter (fun p=>!Nat.beq p.1 kb&&renL K k p)) q with
    |some x=>
     rw[hf]at h;simp at h;subst h
     obtain⟨h1,h2⟩:=jT r2 hf
     simp only[renL,Bool.and_eq_true,Bool.not_eq_true']at h2
     refine⟨by unfold qe;rw[h1],fun hm=>by rw[jL.2 hm]at h2;exact absurd h2.2.1.2 (by simp),fun k0 hk0 e=>?_⟩
     subst hk0 e;simp at h2
    |none=>
     rw[hf]at h;simp only at h
     have h4:=(r5 _ (qA h))
     simp only[renL,Bool.and_eq_true,Bool.not_eq_true']at h4
     refine⟨?_,fun hm=>by rw[jL.2 hm]at h4;exact absurd h4.1.2 (by simp),fun k0 hk0 e=>?_⟩
     ·unfold qe;rw[hk.dl q (by rw[h];simp)];exact h
     ·subst hk0 e;simp at h4
 refine⟨?_,⟨fun t v' h=>?_,fun q b' h=>?_,fun t ht=>?_,fun q hq=>?_⟩⟩
 ·intro E hn hK a w' H β hrep
  let β':Bm:=fun q=>if q=K then(match k with|some k0=>β k0|none=>none)else β q
  have hβ: ∀q,q≠K→β' q=β q:=fun q h=>if_neg h
  have hβK:β' K=(match k with|some k0=>β k0|none=>none):=if_pos rfl
  have holdL: ∀k0,k=some k0→look st.L k0=some (.gro _ b0 l)∧qe st k0=some (.gro _ b0 l):=by
   intro k0 h0
   rcases hold with⟨k1,h1,_,_,h2⟩|⟨h1,_⟩
   ·rw[h0]at h1;cases h1
    exact⟨h2,by unfold qe;rw[h2]⟩
   ·rw[h0]at h1;cases h1
  have hcA: ∀(v':WV),K∉v'.ids→ ∀q,v'.exp.men q=true→β' q=β q:=fun v' h q hq=>hβ q fun e=>h (e▸WV.men_ids hq)
  have hcB: ∀(b':WB),K∉b'.ids→ ∀q,b'.exp.men q=true→β' q=β q:=fun b' h q hq=>hβ q fun e=>h (e▸WB.men_ids hq)
  have hcL: ∀(c:List WA),K∉WAs.ids c→ ∀q,menL q (WAs.exp c)=true→β' q=β q:=fun c h q hq=>hβ q fun e=>h (e▸WAs.men_ids hq)
  have hrepL: ∀k0,k=some k0→(WB.gro _ b0 l).exp.rep β w' H k0:=fun k0 h0=>hrep.blk k0 _ (by rw[qk,qq,(holdL k0 h0).2];rfl)
  have hin: ∀q b',qe (vg st kb K k cs (.gro _ b0 l)) q=some b'→ ∀b c,β' q=some (b,c)→ ∃q0 x,toFS st.toA (2*q0+1)=some (.bl x)∧β q0=some (b,c)∧(q=K→k=some q0)∧(q≠K→q0=q):=by
   intro q b' h b c hb
   rcases hblk q b' h with⟨rfl,rfl⟩|⟨rfl,rfl⟩|⟨h1,_,h2,h3,h4⟩
   ·rw[hβK]at hb
    cases k with
    |none=>cases hb
    |some k0=>exact⟨k0,_,by rw[qk,qq,(holdL k0 rfl).2];rfl,hb,fun _=>rfl,fun h=>absurd rfl h⟩
   ·rw[hβ q r6]at hb
    exact⟨q,_,by rw[qk,qq,hboxL];rfl,hb,fun h=>absurd h r6,fun _=>rfl⟩
   ·rw[hβ q h1]at hb
    exact⟨q,_,by rw[qk,qq,h2];rfl,hb,fun h=>absurd h h1,fun _=>rfl⟩
  refine⟨H,β',⟨hrep.defers,hrep.size,?_,?_,?_,?_,fun q hq=>?_,hrep.os,hrep.tape,hrep.output,hrep.wsize,hrep.frame,hrep.hle,hrep.hnew,hrep.hon⟩⟩
  ·intro t av ht
   rw[qL,j6]at ht
   cases hv:qp (vg st kb K k cs (.gro _ b0 l)) t with
   |none=>rw[hv]at ht;cases ht
   |some v'=>
    rw[hv]at ht;simp at ht;subst ht
    obtain⟨h2,h3⟩:=hslot t v' hv
    obtain⟨u,hu,hsat⟩:=hrep.slot t _ (by rw[qL,j6,h2];rfl)
    exact⟨u,hu,AV.sat_congr (Heap.Le.refl _) (hcA v' h3) hsat⟩
  ·intro q x hx
   rw[qk,qq]at hx
   cases hv:qe (vg st kb K k cs (.gro _ b0 l)) q with
   |none=>rw[hv]at hx;cases hx
   |some b'=>
    rw[hv]at hx;simp at hx;subst hx
    rcases hblk q b' hv with⟨rfl,rfl⟩|⟨rfl,rfl⟩|⟨h1,_,h2,h3,h4⟩
    ·rcases hold with⟨k0,rfl,hne,hs,hl⟩|⟨rfl,rfl,rfl,hs⟩
     ·have h9:=hrepL k0 rfl
      rcases h9 with⟨h5,h6⟩|⟨b,c,arr,T,h5,h6,h7,h8,h9⟩
      ·exact .inl ⟨by rw[hβK];exact h5,h6⟩
      ·refine .inr ⟨b,c,arr,T,by rw[hβK];exact h5,h6,h7,h8,?_⟩
       exact Sats.congr (Heap.Le.refl _) (fun q hq=>by rw[vE]at hq;cases hq) h9
     ·exact .inl ⟨hβK,rfl⟩
    ·obtain⟨b,c,arr,T,h5,h6,h7⟩:=hrep.blk q _ (by rw[qk,qq,hboxL];rfl)
     refine⟨b,c,arr,T,by rw[hβ q r6];exact h5,h6,?_⟩
     subst hcs
     rw[vW _ _ _ (.gs K m) rfl]
     rcases hold with⟨k0,rfl,hne,rfl,hl⟩|⟨rfl,rfl,rfl,rfl⟩
     ·rw[vW _ _ _ (.gs k0 m) rfl]at h7
      refine EN (hcL post (zm f2).1) (fun u hu=>?_) (hcL pre (zm f1).1) h7
      rcases hu with⟨h5,h6,h7⟩|⟨b,c,h5,h6⟩
      ·exact .inl ⟨by rw[hβK];exact h5,h6,h7⟩
      ·exact .inr ⟨b,c,by rw[hβK];exact h5,h6⟩
     ·rw[vW _ _ _ (.val (.slice none 0 0)) rfl]at h7
      refine EN (hcL post (zm f2).1) (fun u hu=>?_) (hcL pre (zm f1).1) h7
      exact .inl ⟨hβK,rfl,hu.1⟩
    ·refine Blk.rep_congr (hrep.blk q b'.exp (by rw[qk,qq,h2];rfl)) (Heap.Le.refl _) ?_ (fun _ _ _=>rfl)
     rintro q' (rfl|hq')
     ·exact hβ _ h1
     ·exact hcB b' h3 q' hq'
  ·intro q x b c hx hb
   rw[qk,qq]at hx
   cases hv:qe (vg st kb K k cs (.gro _ b0 l)) q with
   |none=>rw[hv]at hx;cases hx
   |some b'=>
    obtain⟨q0,y,h1,h2,_,_⟩:=hin q b' hv b c hb
    exact hrep.own q0 y b c h1 h2
  ·intro q q' x x' b c c' hx hx' hne hb hb'
   rw[qk,qq]at hx hx'
   cases hv:qe (vg st kb K k cs (.gro _ b0 l)) q with
   |none=>rw[hv]at hx;cases hx
   |some b1=>
    cases hv':qe (vg st kb K k cs (.gro _ b0 l)) q' with
    |none=>rw[hv']at hx';cases hx'
    |some b2=>
     obtain⟨q0,y,h1,h2,h3,h4⟩:=hin q b1 hv b c hb
     obtain⟨q0',y',h1',h2',h3',h4'⟩:=hin q' b2 hv' b c' hb'
     refine hrep.inj q0 q0' y y' b c c' h1 h1' ?_ h2 h2'
     intro e
     by_cases eq:q=K
     ·have k1:=h3 eq
      have hq':q'≠K:=fun e'=>hne (eq.trans e'.symm)
      have:=h4' hq'
      rcases hblk q' b2 hv' with⟨e',_⟩|⟨e',_⟩|⟨_,_,_,_,h9⟩
      ·exact hq' e'
      ·exact r7 q0 k1 (by rw[e,this,e'])
      ·exact h9 q0 k1 (by rw[←this,e])
     ·have:=h4 eq
      by_cases eq':q'=K
      ·have k1:=h3' eq'
       rcases hblk q b1 hv with⟨e',_⟩|⟨e',_⟩|⟨_,_,_,_,h9⟩
       ·exact eq e'
       ·exact r7 q0' k1 (by rw[←e,this,e'])
       ·exact h9 q0' k1 (by rw[←this,e])
      ·exact hne (by rw[←h4 eq,←h4' eq',e])
  ·rw[hβ q (fun e=>by have:=E.hKs q hq;omega)];exact hrep.bor q hq
 ·exact hk.m t v' (hslot t v' h).1
 ·rcases hblk q b' h with⟨_,rfl⟩|⟨_,rfl⟩|⟨_,_,h2,_⟩
  ·exact hB
  ·have h0:WAs.ok (pre++a0::post):=hk.l kb (.rig (pre++a0::post)) hboxL
   obtain⟨h1,h2⟩:=WAs.ok_app.1 h0
   subst hcs
   exact WAs.ok_app.2 ⟨h1,WAs.ok_cons.2 ⟨hm,(WAs.ok_cons.1 h2).2⟩⟩
  ·exact hk.l q b' h2
 ·exact zP (hk.dm t ht)
 ·show look ((K,WB.gro t b0 l)::(kb,.rig cs)::st.L.filter (fun p=>!Nat.beq p.1 kb&&renL K k p)) q=none
  have hq':look st.rL q≠none:=hq
  obtain⟨x,hx⟩:=Option.ne_none_iff_exists'.1 hq'
  have h4:=(r5 _ (qA hx))
  simp only[renL,Bool.and_eq_true,Bool.not_eq_true']at h4
  have hne:K≠q:=fun e=>by subst e;simp at h4
  have hne2:kb≠q:=fun e=>by subst e;exact hq' r3
  simp only[look,beqF hne,beqF hne2,cond_false]
  exact zP (hk.dl q hq')
theorem Dd{n:Nat}{Ks:List Nat}{st st':WSt}(hk:st.Ok){kb i K:Nat}{t:Ty}{b:Bd}(h:renB kb i K t b st=some st'):EntW n Ks st st'∧st'.Ok∧st'.rm=st.rm∧st'.rL=st.rL:=by
 unfold renB at h
 split at h
 ·rename_i l hbox
  have hl: ∀{a:WA}{post:List WA},l.drop i=a::post→look st.L kb=some (.rig (l.take i++a::post)):=fun e=>by rw[←e,List.take_append_drop];exact hbox
  split at h
  ·rename_i k m w nb post hd
   cases hb:Nat.beq k K with
   |true=>rw[hb]at h;simp at h;subst h;exact⟨Ent.refl,hk,rfl,rfl⟩
   |false=>
    rw[hb]at h;simp only[cond_false]at h
    split at h
    ·rename_i t' b' xs hL
     cases hr:BF st kb K (some k)&&(vH K (some k) (WAs.ids (l.take i))&&vH K (some k) (WAs.ids post))with
     |false=>rw[hr]at h;cases h
     |true=>
      rw[hr]at h;simp at h;subst h
      simp only[Bool.and_eq_true]at hr
      have hB:(WB.gro t' b' xs).ok:=hk.l k _ (by unfold qe;rw[hL])
      have hok:WAs.ok (l.take i++ .gs k m w nb::post):=hk.l kb (.rig (l.take i++ .gs k m w nb::post)) (by unfold qe;rw[hl hd])
      have hmn:m≤nb:=(WAs.ok_cons.1 (WAs.ok_app.1 hok).2).1
      obtain⟨h1,h2⟩:=Hc (n:=n) (Ks:=Ks) hk hr.1 hmn hB (hl hd) hr.2.1 hr.2.2 (.inl ⟨k,rfl,(fun e=>by subst e;simp at hb),rfl,hL⟩)
      exact⟨h1,h2,rfl,rfl⟩
    ·cases h
  ·rename_i a post hne hd
   cases hc:jB a&&(BF st kb K none&&(vH K none (WAs.ids (l.take i))&&vH K none (WAs.ids post)))with
   |false=>rw[hc]at h;cases h
   |true=>
    rw[hc]at h;simp at h;subst h
    simp only[Bool.and_eq_true]at hc
    have:=vk hc.1;subst this
    obtain⟨h1,h2⟩:=Hc (n:=n) (Ks:=Ks) (t:=t) (b0:=b) (l:=[]) (w:=t.w) hk hc.2.1 (Nat.le_refl 0) (fun x hx=>by simp at hx) (hl hd) hc.2.2.1 hc.2.2.2 (.inr ⟨rfl,rfl,rfl,rfl⟩)
    exact⟨h1,h2,rfl,rfl⟩
  ·cases h
 ·cases h
def NH(kb K:Nat)(pre post:List WA)(t:Ty)(b:Bd)(nb:Nat)(st:WSt):Option (List Prop×List t.den):=
 match look st.rL kb,look st.rL K with
 |none,none=>match look st.L kb,look st.L K with
  |some (.rig c),some (.gro t' b' l)=>match c.drop pre.length with
   | .gs k n w nb'::post'=>if h:(Ty.sl t').beq (.sl t)=true then
     (bif Nat.beq k K&&Nat.beq w t.w then some ((c.take pre.length=pre)::(post'=post)::(n=l.length)::((bif Nat.ble nb' nb then[]else[n≤nb])++(bif b'.le b then[]else[∀x∈j0 (t:= .sl t') (t':= .sl t) h l,Bnd t b x])),j0 (t:= .sl t') (t':= .sl t) h l)else none)else none
   |_=>none
  |_,_=>none
 |_,_=>none
def gboX(kb K:Nat)(pre post:List WA)(t:Ty)(b:Bd)(nb:Nat):HavX where
 t:= .sl t
 bnd l:=(List.length (show List t.den from l)≤nb∧ ∀x∈(show List t.den from l),Bnd t b x)∧WAs.ok pre∧WAs.ok post
 ss:=[]
 bs:=[kb,K]
 gb:=[K]
 m _:=[]
 L l:=[(kb,.rig (pre++ .gs K (List.length (show List t.den from l)) t.w nb::post)),(K,.gro t b l)]
 val st:=NH kb K pre post t b nb st
 ren st:=renB kb pre.length K t b st
 hm:=fun _ p hp=>by simp at hp
 hL:=by
  intro x hx p hp
  simp only[List.mem_cons,List.not_mem_nil,or_false]at hp
  rcases hp with rfl|rfl
  ·exact⟨by simp,WAs.ok_app.2 ⟨hx.2.1,WAs.ok_cons.2 ⟨hx.1.1,hx.2.2⟩⟩⟩
  ·exact⟨by simp,hx.1.2⟩
 hval:=by
  intro st vc x hk e hvc
  unfold NH at e
  split at e
  ·rename_i hr1 hr2
   split at e
   ·rename_i c t' b' l h1 h2
    split at e
    ·rename_i k n w nb' post' hd
     split at e
     ·rename_i hb
      have:=Ty.beq_eq hb
      cases this
      cases hc:Nat.beq k K&&Nat.beq w t.w with
      |false=>rw[hc]at e;cases e
      |true=>
       rw[hc]at e;simp only[cond_true,Option.some.injEq,Prod.mk.injEq]at e;obtain⟨rfl,rfl⟩:=e
       simp only[Bool.and_eq_true]at hc
       have q1:=Nat.eq_of_beq_eq_true hc.1
       have q2:=Nat.eq_of_beq_eq_true hc.2
       subst q1 q2
       have e1:c.take pre.length=pre:=hvc _ List.mem_cons_self
       have e2:post'=post:=hvc _ (by simp)
       have e3:n=l.length:=hvc _ (by simp)
       obtain⟨p1,p2⟩:=AllP.app (fun p hp=>hvc p (List.mem_cons_of_mem _ (List.mem_cons_of_mem _ (List.mem_cons_of_mem _ hp))))
       subst e2
       have hcc:c=pre++ .gs k n t.w nb'::post':=by
        have h9:=List.take_append_drop pre.length c
        rw[e1,hd]at h9;exact h9.symm
       have hL1:qe st kb=some (.rig c):=by unfold qe;rw[h1]
       have hL2:qe st k=some (.gro t b' l):=by unfold qe;rw[h2]
       have e5: ∀x∈l,Bnd t b x:=by
        cases hle:b'.le b with
        |true=>exact fun x hx=>Bnd.mono hle ((hk.l k _ hL2) x hx)
        |false=>rw[hle]at p2;exact p2 (∀x∈l,Bnd t b x) List.mem_cons_self
       have hok:WAs.ok c:=hk.l kb (.rig c) hL1
       rw[hcc]at hok
       obtain⟨o1,o2⟩:=WAs.ok_app.1 hok
       have hnn:n≤nb':=(WAs.ok_cons.1 o2).1
       have e4:n≤nb:=by
        cases hle:Nat.ble nb' nb with
        |true=>have:=Nat.le_of_ble_eq_true hle;omega
        |false=>rw[hle]at p1;exact p1 (n≤nb) List.mem_cons_self
       refine⟨⟨⟨by show l.length≤nb;omega,e5⟩,o1,(WAs.ok_cons.1 o2).2⟩,fun p hp=>by simp at hp,fun p hp=>?_⟩
       simp only[List.mem_cons,List.not_mem_nil,or_false]at hp
       rcases hp with rfl|rfl
       ·refine⟨hr1,_,hL1,?_⟩
        show BImp kb (.rigid (WAs.exp c)) (.rigid (WAs.exp (pre++ .gs k l.length t.w nb::post')))
        rw[hcc,vW _ _ _ (.gs k n) rfl,vW _ _ _ (.gs k l.length) rfl,e3]
        exact fun _ _ _ h=>h
       ·exact⟨hr2,_,hL2,fun _ _ _ h=>h⟩
     ·cases e
    ·cases e
   ·cases e
  ·cases e
 hren:=fun hk h=>Dd hk h
section
section
variable {P:Program}
theorem Ml {op : Op} {ty : TypeId} {ins : List (Operand × AV)} {k : Nat} {b b' : Blk} {R : AV} (hi : BImp k b b')
  (h : ∀ (a : Act) (w : World) (H : Heap) (β : Bm), (∀ p ∈ ins, p.2.sat β H (a.eval p.1)) → b.rep β w H k → Heap.On H w →
   ∃ v, R.sat β H v ∧ ∀ dst pos after guard, (execOp a.eval ⟨dst, op, ty, pos, after, guard⟩).run P w = .ok (.value v) w) : OpOk P op ty ins [(k, b)] R [(k, some b')] := by
 intro dst pos after guard a w H β K Q hins hkin _ hon hK
 have hr := (hkin (k, b) List.mem_cons_self).1
 obtain ⟨v, hv, hrun⟩ := h a w H β hins hr hon
 unfold Oper.wp
 rw [hrun]
 refine hK v w H β (by simpa [kwOf, knOf, kdOf, look] using Step.same k hon) hv fun k' b1 hb1 => ?_
 simp only [List.mem_singleton, Prod.mk.injEq, Option.some.injEq] at hb1
 obtain ⟨rfl, rfl⟩ := hb1
 exact hi _ _ _ hr
theorem Ot{t ty:TypeId}{x:Operand}{k off s:Nat}{cs cs':List Atom}{u:Atom}(hs:qB P t=some (false,s))(hl:cs[off]?=some u)(hc:AImps cs cs'):
  OpOk P (.load t x) ty [(x,.c (.one (.loc k off)))] [(k,.rigid cs)] (.c (.one u)) [(k,some (.rigid cs'))]:=
 Ml (v9 hc) fun a w H β hins hk _=>by
  obtain⟨b,c,hβ,hx⟩:=hins _ List.mem_cons_self
  obtain⟨b',c',arr,T,hβ',hb,hsat⟩:=hk
  simp only at hβ hx
  rw[hβ]at hβ';cases hβ'
  obtain⟨v,hv,hu⟩:=Sats.get off hsat hl
  refine⟨v,hu,fun _ _ _ _=>?_⟩
  simp only[execOp,Instr.loadAt,hx,Instr.sureAddr,Sem.run_bind,Sem.run_pure,Result.andThen_ok,
   jJ hs hb (off:=off) (by simpa using hv)]
def gLF(P:Program):Op→Option Tmp→(Nat→Option WB)→List WV→HR
 | .load ty _,_,bl,[.c (.one (.loc k off))]=>match bl k,qB P ty with
  |some (.rig l),some (false,s)=>match carve l off 1 with
   |some (a,[m],p)=> .ok [] (.c (.one m)) [k] [(k,some (.rig (a++ .un::p)))]
   |_=> .bad
  |_,_=> .bad
 |_,_,_,_=> .bad
def q1o:Ext P:=⟨gLF P,by
 intro op dst ty bl vs hl
 unfold gLF
 split
 ·rename_i ty' x k off
  split
  ·rename_i l s hbl hs
   split
   ·rename_i a m p hc
    intro hv hbo _ kin hk hkb
    rw[jn hk hkb hbl]
    obtain⟨e,l1,l2,o⟩:=je hc
    obtain⟨oa,om,op⟩:=o (hbo k _ hbl)
    have hm1:(WAs.exp [m]).length=1:=l2
    have hme:WAs.exp [m]=m.exp:=by simp[WAs.exp]
    rw[hme]at hm1
    have hwd:m.wd=1:=by rw[←m.exp_len];exact hm1
    obtain⟨u,hu⟩:=EL hm1
    have hat:(WAs.exp l)[off]?=some u:=by
     rw[e,List.getElem?_append_right (by omega),l1,Nat.sub_self,hme,hu];rfl
    have himp:AImps (WAs.exp l) (WAs.exp (a++ .un::p)):=by
     rw[e,vW _ _ _ (.abs unP) rfl,hme,hu]
     exact vR j5 ⟨fun _ _ _ h=>Atom.sat_one h,j5⟩
    have hmok:m.ok:=om m List.mem_cons_self
    refine⟨?_,⟨hmok,hwd⟩,jo (WAs.ok_app.2 ⟨oa,WAs.ok_cons.2 ⟨trivial,op⟩⟩)⟩
    have:=Ot (P:=P) (t:=ty') (ty:=ty) (x:=x) (k:=k) (off:=off) (s:=s) hs hat himp
    refine this.weak (fun β H v h=>?_) (Bj fun _ _ _ h=>h)
    show(AV.c (.one (m.exp.headD (.val (.bool false))))).sat β H v
    rw[hu];exact h
   ·exact trivial
  ·exact trivial
 ·exact trivial⟩
end
end
section
section
variable {P:Program}
def mapB(P:Program)(mt:TypeId):Bool:=
 match P.underlying mt with
 |some (.map kt et)=>match P.underlying kt with
  |some (.array n e)=>match P.underlying e,P.info? et with
   |some (.int k),some i=>match i.zero with
    |some (.int k' z)=>kbeq k .i64&&(kbeq k' .i64&&(decide (z=0)&&(Nat.beq n 2&&(Nat.beq (P.cellsOf e) 1&&(Nat.beq (P.cellsOf kt) 2&&Nat.blt 0 P.types.size)))))
    |_=>false
   |_,_=>false
  |_=>false
 |_=>false
theorem Hu{mt:TypeId}(h:mapB P mt=true): ∃kt e et i,MapT P mt kt e et∧P.info? et=some i∧i.zero=some (.int .i64 0):=by
 unfold mapB at h
 split at h
 ·rename_i kt et h1
  split at h
  ·rename_i n e h2
   split at h
   ·rename_i k i h3 h4
    split at h
    ·rename_i k' z h5
     simp only[Bool.and_eq_true,decide_eq_true_eq]at h
     obtain⟨a1,a2,a3,a4,a5,a6,a7⟩:=h
     have a1:=qN a1;have a2:=qN a2;have a4:=Nat.eq_of_beq_eq_true a4
     subst a1 a2 a3 a4
     exact⟨kt,e,et,i,⟨h1,⟨h2,by simp[Program.plainKey,h3],Nat.eq_of_beq_eq_true a5,Nat.eq_of_beq_eq_true a6⟩,h3,⟨P.types.size-1,by have:=of_decide_eq_true (show decide (0<P.types.size)=true by simpa using a7);omega⟩⟩,h4,h5⟩
    ·cases h
   ·cases h
  ·cases h
 ·cases h
def keyW:List WA→Option (Int×Int)
 |[a,b]=>match asZ a,asZ b with
  |some (k,_,x),some (k',_,y)=>bif kbeq k .i64&&kbeq k' .i64 then some (x,y)else none
  |_,_=>none
 |_=>none
theorem D0{l:List WA}{k:Int×Int}(h:keyW l=some k):(WV.c (.agg l)).exp=keyA k:=by
 unfold keyW at h
 split at h
 ·rename_i a b
  split at h
  ·rename_i q1 b1 x q2 b2 y h1 h2
   cases hc:kbeq q1 .i64&&kbeq q2 .i64 with
   |false=>rw[hc]at h;cases h
   |true=>
    rw[hc]at h;simp at h;subst h
    simp only[Bool.and_eq_true]at hc
    have e1:=qN hc.1;have e2:=qN hc.2
    subst e1 e2
    show AV.c (.agg (WAs.exp [a,b]))=_
    have:WAs.exp [a,b]=a.exp++(b.exp++[]):=rfl
    rw[this,(qH h1).1,(qH h2).1];rfl
  ·cases h
 ·cases h
abbrev kLim:Nat:=4611686018427387904
def gMkM(m:Nat):Op→Option Tmp→(Nat→Option WB)→List WV→HR
 | .makeMap t none,some d,_,[]=> .ok [] (.c (.one (.mp d))) [] [(d,some (.mp m []))]
 |_,_,_,_=> .bad
def Y6(m:Nat):Ext P:=⟨gMkM m,by
 intro op dst ty bl vs hl
 unfold gMkM
 split
 ·intro hv _ hvc kin hk _
  rw[qf hk]
  exact⟨Mk,⟨trivial,rfl⟩,jo (MOk.nil m)⟩
 ·exact trivial⟩
def gLkM(P:Program):Op→Option Tmp→(Nat→Option WB)→List WV→HR
 | .lookup mt _ _ false,_,bl,[.c (.one (.mp q)),.c (.agg l)]=>match bl q,keyW l,mapB P mt with
  |some (.mp m L),some k,true=> .okA [k.1.natAbs≤kLim,k.2.natAbs≤kLim] (.c (.one (.dt (.int .i64) (.n m) (getM L k)))) q (.mp m (entM L k))
  |_,_,_=> .bad
 |_,_,_,_=> .bad
def jE:Ext P:=⟨gLkM P,by
 intro op dst ty bl vs hl
 unfold gLkM
 split
 ·rename_i mt x y q l
  split
  ·rename_i m L k h1 h2 h3
   intro hv hbl hvc b hb
   rw[h1]at hb;cases hb
   obtain⟨kt,e,et,i,T,t1,t2⟩:=Hu h3
   have hM:MOk m L:=hbl q _ h1
   have k1:k.1.natAbs≤kLim:=hvc _ List.mem_cons_self
   have k2:k.2.natAbs≤kLim:=hvc _ (by simp)
   refine⟨?_,?_,⟨CZ hM.vb,rfl⟩⟩
   ·show OpOk P _ ty [(_,.c (.one (.mp q))),(_,(WV.c (.agg l)).exp)] _ _ _
    rw[D0 h2]
    exact Hw T t1 t2 hM k1 k2
   ·show OpOk P _ ty [(_,.c (.one (.mp q))),(_,(WV.c (.agg l)).exp)] _ (vInt .i64 (getM L k)) _
    rw[D0 h2,←IR]
    exact Hw T t1 t2 (Gk hM k1 k2).1 k1 k2
  ·exact trivial
 ·exact trivial⟩
def gEnM(P:Program)(nb:Nat):Op→Option Tmp→(Nat→Option WB)→List WV→HR
 | .mapEntry mt _ _,_,bl,[.c (.one (.mp q)),.c (.agg l)]=>match bl q,keyW l,mapB P mt with
  |some (.mp m L),some k,true=> .ok [k.1.natAbs≤kLim,k.2.natAbs≤kLim,idxM L k≤nb] (.tup [.one (.dt (.int .i64) (.n m) (getM L k)),.one (.dt (.nat .i64) (.n nb) (idxM L k))]) [q] [(q,some (.mp m (entM L k)))]
  |_,_,_=> .bad
 |_,_,_,_=> .bad
def IN(nb:Nat):Ext P:=⟨gEnM P nb,by
 intro op dst ty bl vs hl
 unfold gEnM
 split
 ·rename_i mt x y q l
  split
  ·rename_i m L k h1 h2 h3
   intro hv hbl hvc kin hk hkb
   rw[jn hk hkb h1]
   obtain⟨kt,e,et,i,T,t1,t2⟩:=Hu h3
   have hM:MOk m L:=hbl q _ h1
   have k1:k.1.natAbs≤kLim:=hvc _ List.mem_cons_self
   have k2:k.2.natAbs≤kLim:=hvc _ (by simp)
   refine⟨?_,?_,jo (Gk hM k1 k2).1⟩
   ·show OpOk P _ ty [(_,.c (.one (.mp q))),(_,(WV.c (.agg l)).exp)] _ _ _
    rw[D0 h2]
    exact Km T t1 t2 hM k1 k2
   ·intro x hx
    simp only[List.mem_cons,List.not_mem_nil,or_false]at hx
    rcases hx with rfl|rfl
    ·exact⟨CZ hM.vb,rfl⟩
    ·exact⟨show idxM L k≤nb from hvc (idxM L k≤nb) (by simp),rfl⟩
  ·exact trivial
 ·exact trivial⟩
def gStM:Op→Option Tmp→(Nat→Option WB)→List WV→HR
 | .entryStore _ _ _ _,_,bl,[.c (.one (.mp q)),.c (.one (.dt (.nat .i64) b i)),.c (.one a)]=>match bl q,asZ a with
  |some (.mp m L),some (k,_,v)=>bif kbeq k .i64 then .ok [(show Nat from i)<L.length,v.natAbs≤m] (.tup []) [q] [(q,some (.mp m (setM L i v)))]else .bad
  |_,_=> .bad
 |_,_,_,_=> .bad
def IP:Ext P:=⟨gStM,by
 intro op dst ty bl vs hl
 unfold gStM
 split
 ·rename_i mt x s y q b i a
  split
  ·rename_i m L k b' v h1 h2
   cases hc:kbeq k .i64 with
   |false=>exact trivial
   |true=>
    have hc:=qN hc;subst hc
    intro hv hbl hvc kin hk hkb
    rw[jn hk hkb h1]
    have hM:MOk m L:=hbl q _ h1
    refine⟨?_,(fun x hx=>(by cases hx)),jo (Lo hM (hvc (v.natAbs≤m) (by simp)))⟩
    have e:=(qH h2).1
    show OpOk P _ ty [(_,.c (.one (.mp q))),(_,vInt .i64 ((show Nat from i:Nat):Int)),(_,(WV.c (.one a)).exp)] _ _ _
    rw[qD e]
    exact HN (hvc _ List.mem_cons_self)
  ·exact trivial
 ·exact trivial⟩
end
abbrev tMap:Ty:= .sl (.pr (.pr (.int .i64) (.int .i64)) (.int .i64))
def mapX(k m:Nat):HavX where
 t:=tMap
 bnd L:=MOk m L
 ss:=[]
 bs:=[k]
 gb:=[]
 m _:=[]
 L L:=[(k,.mp m L)]
 val st:=match look st.rL k,look st.L k with
  |none,some (.mp m' L)=>bif Nat.ble m' m then some ([],L)else none
  |_,_=>none
 ren st:=some st
 hm:=fun _ p hp=>by simp at hp
 hL:=by
  intro x hx p hp
  simp only[List.mem_cons,List.not_mem_nil,or_false]at hp
  subst hp;exact⟨by simp,hx⟩
 hval:=by
  intro st vc x hk e hvc
  split at e
  ·rename_i m' L h1 h2
   cases hc:Nat.ble m' m with
   |false=>rw[hc]at e;cases e
   |true=>
    rw[hc]at e;simp only[cond_true,Option.some.injEq,Prod.mk.injEq]at e;obtain⟨rfl,rfl⟩:=e
    have hle:=Nat.le_of_ble_eq_true hc
    have hL:qe st k=some (.mp m' L):=by unfold qe;rw[h2]
    have ho:MOk m' L:=hk.l k _ hL
    refine⟨⟨ho.nd,ho.kb,fun p hp=>Nat.le_trans (ho.vb p hp) hle⟩,fun p hp=>by simp at hp,fun p hp=>?_⟩
    simp only[List.mem_cons,List.not_mem_nil,or_false]at hp
    subst hp
    exact⟨h1,_,hL,fun _ _ _ h=>h⟩
  ·cases e
 hren:=by
  intro n Ks st st' hk h
  cases h
  exact⟨Ent.refl,hk,rfl,rfl⟩
end
section
section
variable {P:Program}
theorem QP{fx:Operand}{f:FuncId}{cells:List CAtom}{xs:Array Operand}{ts:Array TypeId}{ty:TypeId}{us:List AV}{R:AV}
  (hl:xs.size=us.length)(h:SigG P f (us++[.c (.one (.abs (ptP cells)))]) [] R []):
  OpOk P (.call {callee:= .value fx,args:=xs,argTypes:=ts}) ty ((fx,.c (.one (.abs (clP f cells))))::List.zip xs.toList us) [] R []:=by
 intro dst pos after guard a w H β K Q hins hkin hdis hon hK
 obtain⟨q,hf,hq⟩:=hins _ List.mem_cons_self
 simp only at hf
 have hargs:AVs β H us (xs.toList.map a.eval):=AVs.of_ins (by simpa using hl) fun p hp=>hins p (List.mem_cons_of_mem _ hp)
 have hap: ∀{l:List AV}{vs:List Value},AVs β H l vs→AVs β H (l++[.c (.one (.abs (ptP cells)))]) (vs++[q]):=by
  intro l
  induction l with
  |nil=>intro vs hv;cases vs with
   |nil=>exact⟨hq,trivial⟩
   |cons _ _=>exact hv.elim
  |cons x l ih=>intro vs hv;cases vs with
   |nil=>exact hv.elim
   |cons _ _=>exact⟨hv.1,ih hv.2⟩
 have hc:=h.2 _ w H β (hap hargs) hkin hdis hon
 unfold Oper.wp
 have hrun:(execOp a.eval ⟨dst,.call {callee:= .value fx,args:=xs,argTypes:=ts},ty,pos,after,guard⟩).run P w= .ok (.enter f (xs.map a.eval++ #[q])) w:=by
  simp only[execOp,resolve,hf,Deferred.ofValue,Sem.run_bind,Sem.run_pure,Result.andThen_ok,invoke]
  rw[show(#[]++Array.map a.eval xs++ #[q]:Array Value)=Array.map a.eval xs++ #[q] by simp]
  exact Dh h.1 _ w
 rw[hrun]
 show Calls P f (xs.map a.eval++ #[q]) w _
 have e:(xs.toList.map a.eval++[q]).toArray=xs.map a.eval++ #[q]:=Array.ext' (by simp)
 rw[←e]
 refine hc.mono fun e' w'⟨v,H',β',he,hs,hR,hL⟩=>?_
 subst he
 exact hK v w' H' β' hs hR hL
def gMkF:Op→Option Tmp→(Nat→Option WB)→List WV→HR
 | .makeFunc (.func f) a b,_,_,[.c (.one (.ip t bd x 0))]=>bif Nat.beq a.size 0&&Nat.beq b.size 1 then .ok [] (.c (.one (.dt (.cl f t) bd x))) [] []else .bad
 |_,_,_,_=> .bad
def zZ:Ext P:=⟨gMkF,by
 intro op dst ty bl vs hl
 unfold gMkF
 split
 ·rename_i f a b t bd x
  cases hc:Nat.beq a.size 0&&Nat.beq b.size 1 with
  |false=>exact trivial
  |true=>
   simp only[Bool.and_eq_true]at hc
   have ha:a= #[]:=Array.eq_empty_of_size_eq_zero (Nat.eq_of_beq_eq_true hc.1)
   obtain⟨o,hb⟩: ∃o,b= #[o]:=by
    have h1:=Nat.eq_of_beq_eq_true hc.2
    exact⟨b[0]'(by omega),Array.ext (by simp[h1]) fun i h1 h2=>by simp at h2;subst h2;rfl⟩
   subst ha hb
   intro hv _ hvc kin hk _
   rw[qf hk]
   refine⟨?_,⟨hv _ List.mem_cons_self|>.1,rfl⟩,qh⟩
   show OpOk P _ ty [(o,.c (.one (.ptr (cellsC t x))))] [] (.c (.one (.abs (clP f (cellsC t x))))) []
   refine qo fun a w H β hins _ _=>?_
   have h0:=hins _ List.mem_cons_self
   refine⟨.func (.func f) #[] #[a.eval o],⟨a.eval o,rfl,h0⟩,fun _ _ _ _=>?_⟩
   simp[execOp,Instr.makeFunc]
 ·exact trivial⟩
def gLdP(P:Program):Op→Option Tmp→(Nat→Option WB)→List WV→HR
 | .load ty _,_,_,[.c (.one (.dt (.pt t) b x))]=>match qB P ty with
  |some (g,s)=>bif Nat.beq s t.w&&(beqB g t.agg&&Nat.blt 0 t.w)then .ok [] (.c (mkC t b x)) [] []else .bad
  |none=> .bad
 |_,_,_,_=> .bad
def IO:Ext P:=⟨gLdP P,by
 intro op dst ty bl vs hl
 unfold gLdP
 split
 ·rename_i lt o t b x
  split
  ·rename_i g s hs
   cases hc:Nat.beq s t.w&&(beqB g t.agg&&Nat.blt 0 t.w)with
   |false=>exact trivial
   |true=>
    simp only[Bool.and_eq_true]at hc
    obtain⟨c1,c2,c3⟩:=hc
    have c1:=Nat.eq_of_beq_eq_true c1
    have c2:g=t.agg:=by cases g<;>cases h:t.agg<;>simp_all [beqB]
    subst c1 c2
    intro hv _ hvc kin hk _
    rw[qf hk]
    refine⟨?_,Bz (hv _ List.mem_cons_self).1,qh⟩
    have hlen:=qM t x
    have hup:(cellsC t x).map CAtom.up=qn t x:=rfl
    have key: ∀{R:AV},OpOk P (.load lt o) ty [(o,.c (.one (.ptr (cellsC t x))))] [] R []→OpOk P (.load lt o) ty [(o,.c (.one (.abs (ptP (cellsC t x)))))] [] R []:=fun h dst pos after guard a w H β K Q hins=>h dst pos after guard a w H β K Q (fun p hp=>by
     rw[List.mem_singleton.1 hp];exact hins (o,.c (.one (.abs (ptP (cellsC t x))))) List.mem_cons_self)
    refine key ?_
    show OpOk P _ ty _ [] (WV.c (mkC t b x)).exp []
    rw[By]
    unfold argC
    cases ht:t.agg with
    |true=>
     rw[ht]at hs
     simp only[cond_true]
     exact AR hs (by rw[List.take_of_length_le (by omega)];exact hup) (by omega) (by simpa using c3)
    |false=>
     rw[ht]at hs
     simp only[cond_false]
     have hw:=Ty.w_one ht
     rw[hw]at hlen
     match hcc:cellsC t x,hlen with
     |[u],_=>
      have:(qn t x).headD (.val (.bool false))=u.up:=by rw[←hup,hcc];rfl
      rw[this]
      exact AS hs
  ·exact trivial
 ·exact trivial⟩
def Pn(C:Ctr P)(vs:List WV):HR:=
 match vs with
 | .c (.one (.dt (.cl f t) b x))::vs=>bif Nat.beq f C.f then(match jY C.ts (vs++[.c (.one (.dt (.pt t) b x))])with
  |some (bs,x)=>bif Bds.le bs C.bs then .ok (C.pre x) (C.res bs x) [] []else .bad
  |none=> .bad)else .bad
 |_=> .bad
def gClC(C:Ctr P)(op:Op)(dst:Option Tmp)(bl:Nat→Option WB)(vs:List WV):HR:=
 match op with
 | .call {callee:= .value _,args:=aas,argTypes:=_}=>bif Nat.beq vs.length (aas.size+1)then Pn C vs else .bad
 |_=> .bad
def IM(C:Ctr P):Ext P:=⟨gClC C,by
 intro op dst ty bl vs hl
 unfold gClC
 split
 ·rename_i fx aas ts
  cases hn:Nat.beq vs.length (aas.size+1)with
  |false=>exact trivial
  |true=>
   simp only[cond_true]
   have hn:=Nat.eq_of_beq_eq_true hn
   unfold Pn
   split
   ·rename_i f t b x vs _
    cases hf:Nat.beq f C.f with
    |false=>exact trivial
    |true=>
     simp only[cond_true]
     have hf:=Nat.eq_of_beq_eq_true hf
     split
     ·rename_i bs y hx
      cases hb:Bds.le bs C.bs with
      |false=>exact trivial
      |true=>
       intro hv _ hvc kin hk _
       rw[qf hk]
       obtain⟨h1,h2,h3⟩:=vS hx (fun w hw=>by
        rcases List.mem_append.1 hw with hw|hw
        ·exact hv w (List.mem_cons_of_mem _ hw)
        ·rw[List.mem_singleton.1 hw];exact⟨(hv _ List.mem_cons_self).1,rfl⟩)
       refine⟨?_,C.okr bs y h2 hvc,qh⟩
       have hs:=Au h1 (C.sig y (Bnds.mono hb h2) hvc)
       rw[C.hexp bs y]
       rw[List.map_append]at hs
       rw[show Op.operands (.call {callee:= .value fx,args:=aas,argTypes:=ts})= #[fx]++aas from rfl]
       have e:(#[fx]++aas:Array Operand).toList=fx::aas.toList:=by simp
       rw[e]
       subst hf
       exact QP (by simp at hn;simp[hn]) hs
     ·exact trivial
   ·exact trivial
 ·exact trivial⟩
end
end
section
section
variable {P:Program}
theorem Zm(g:Bool){ty:TypeId}{x y z:Operand}{ts:Array TypeId}{k:IntKind}{a b c:Int}:
  OpOk P (.call {callee:= .builtin (bif g then .max else .min),args:= #[x,y,z],argTypes:=ts}) ty [(x,vInt k a),(y,vInt k b),(z,vInt k c)] [] (vInt k (bif g then max (max a b) c else min (min a b) c)) []:=
 qo fun ac w H β hins _ _=>by
  have hx:=(hins (x,vInt k a) (by simp)).1
  have hy:=(hins (y,vInt k b) (by simp)).1
  have hz:=(hins (z,vInt k c) (by simp)).1
  simp only at hx hy hz
  have e: ∀a b:Int,(if b>a then b else a)=max a b:=fun a b=>by
   rw[Int.max_def];split<;>split<;>omega
  have e': ∀a b:Int,(if b<a then b else a)=min a b:=fun a b=>by
   rw[Int.min_def];split<;>split<;>omega
  cases g with
  |true=>
   refine⟨.int k (max (max a b) c),⟨rfl,rfl⟩,fun _ _ _ _=>?_⟩
   simp[execOp,resolve,invoke,builtin,hx,hy,hz,Builtin.max_,Builtin.max2,e]
  |false=>
   refine⟨.int k (min (min a b) c),⟨rfl,rfl⟩,fun _ _ _ _=>?_⟩
   simp[execOp,resolve,invoke,builtin,hx,hy,hz,Builtin.min_,Builtin.min2,e']
def gMm3(op:Op)(dst:Option Tmp)(bl:Nat→Option WB)(vs:List WV):HR:=
 match op with
 | .call {callee:= .builtin b,args:=aas,argTypes:=_}=>match aas.toList,vs with
  |[_,_,_],[.c (.one a),.c (.one b'),.c (.one c)]=>match asZ a,asZ b',asZ c with
   |some (k,b1,z1),some (k',b2,z2),some (k'',b3,z3)=>bif kbeq k k'&&kbeq k k'' then(match b with
    | .max=> .ok [] (vZ k (b1+b2+b3) (max (max z1 z2) z3)) [] []
    | .min=> .ok [] (vZ k (b1+b2+b3) (min (min z1 z2) z3)) [] []
    |_=> .bad)else .bad
   |_,_,_=> .bad
  |_,_=> .bad
 |_=> .bad
def NA:Ext P:=⟨gMm3,by
 intro op dst ty bl vs hl
 unfold gMm3
 split
 ·rename_i b aas ts
  split
  ·rename_i x y z a b' c hx
   have haa:aas= #[x,y,z]:=by apply Array.ext';rw[hx]
   subst haa
   split
   ·rename_i k b1 z1 k' b2 z2 k'' b3 z3 h1 h2 h3
    cases hk:kbeq k k'&&kbeq k k'' with
    |false=>exact trivial
    |true=>
     simp only[Bool.and_eq_true]at hk
     have q1:=qN hk.1;have q2:=qN hk.2
     subst q1 q2
     simp only[Bool.and_self,kbeq,decide_true,cond_true]
     have key: ∀g:Bool,∀hv:(∀v∈[WV.c (.one a),WV.c (.one b'),WV.c (.one c)],v.ok),OpOk P (.call {callee:= .builtin (bif g then .max else .min),args:= #[x,y,z],argTypes:=ts}) ty [(x,(WV.c (.one a)).exp),(y,(WV.c (.one b')).exp),(z,(WV.c (.one c)).exp)] [] (vInt k (bif g then max (max z1 z2) z3 else min (min z1 z2) z3)) []:=fun g hv=>by
      rw[qD (qH h1).1,qD (qH h2).1,qD (qH h3).1];exact Zm g
     split
     ·intro hv _ hvc kin hkk _
      rw[qf hkk]
      have o1:=(qH h1).2 (hv _ List.mem_cons_self).1
      have o2:=(qH h2).2 (hv (.c (.one b')) (by simp)).1
      have o3:=(qH h3).2 (hv (.c (.one c)) (by simp)).1
      refine⟨key true hv,⟨?_,rfl⟩,qh⟩
      show Int.natAbs (max (max z1 z2) z3)≤b1+b2+b3
      omega
     ·intro hv _ hvc kin hkk _
      rw[qf hkk]
      have o1:=(qH h1).2 (hv _ List.mem_cons_self).1
      have o2:=(qH h2).2 (hv (.c (.one b')) (by simp)).1
      have o3:=(qH h3).2 (hv (.c (.one c)) (by simp)).1
      refine⟨key false hv,⟨?_,rfl⟩,qh⟩
      show Int.natAbs (min (min z1 z2) z3)≤b1+b2+b3
      omega
     ·exact trivial
   ·exact trivial
  ·exact trivial
 ·exact trivial⟩
end
end
abbrev tSpn:Ty:= .pr .rat .rat
abbrev bSpn:Bd:= .p (.n 64) (.n 64)
theorem minm{x y:Rat}{m:Nat}(h:Bnd .rat (.n m) x)(k:Bnd .rat (.n m) y):Bnd .rat (.n m) (minQ x y):=by unfold minQ;split<;>assumption
theorem maxm{x y:Rat}{m:Nat}(h:Bnd .rat (.n m) x)(k:Bnd .rat (.n m) y):Bnd .rat (.n m) (maxQ x y):=by unfold maxQ;split<;>assumption
theorem q1K{x y:Spn}(h:Bnd tSpn bSpn x)(k:Bnd tSpn bSpn y):Bnd tSpn bSpn (mtV x y):=by
 unfold mtV;split
 ·exact⟨Ay _,Ay _⟩
 ·exact⟨maxm h.1 k.1,minm h.2 k.2⟩
theorem Yr{x y:Spn}(h:Bnd tSpn bSpn x)(k:Bnd tSpn bSpn y):Bnd tSpn bSpn (minQ x.1 y.1,maxQ x.2 y.2):=⟨minm h.1 k.1,maxm h.2 k.2⟩
theorem Fd{f:V3→Rat}{l:List V3}(h: ∀i,Bnd .rat (.n 64) (f (l.getD i z3))): ∀n,Bnd tSpn bSpn (bxN f l n)
 |0=>⟨h 0,h 0⟩
 |n+1=>by
  have g:Bnd .rat (.n 64) (f ((l.drop 1).getD n z3)):=by
   have:(l.drop 1).getD n z3=l.getD (1+n) z3:=by simp[List.getD_eq_getElem?_getD,Nat.add_comm]
   rw[this];exact h _
  exact⟨minm (Fd h n).1 g,maxm (Fd h n).2 g⟩
abbrev tBox:Ty:= .pr tSpn (.pr tSpn tSpn)
abbrev bBox:Bd:= .p bSpn (.p bSpn bSpn)
theorem It{l:List V3}(h:Bnd (.sl tV3) (.s 64 (bV3 64)) l):Bnd tBox bBox (boxV l):=
 ⟨Fd (fun i=>(vM h.2 i).1) _,Fd (fun i=>(vM h.2 i).2.1) _,Fd (fun i=>(vM h.2 i).2.2) _⟩
theorem I3{a:T3}(h:Bnd tT3 (bT3 64) a):Bnd (.sl tV3) (.s 64 (bV3 64)) [a.1,a.2.1,a.2.2]:=⟨(by decide:3≤64),MF ⟨h.1,h.2.1,h.2.2⟩⟩
theorem LR{l:List V3}(h: ∀u∈l,Bnd tV3 (bV3 64) u)(k:Nat):Bnd tSpn bSpn (((l.drop 1).getD k (0,(0,0))).1,((l.drop 1).getD k (0,(0,0))).1)∧Bnd tSpn bSpn (((l.drop 1).getD k (0,(0,0))).2.1,((l.drop 1).getD k (0,(0,0))).2.1)∧Bnd tSpn bSpn (((l.drop 1).getD k (0,(0,0))).2.2,((l.drop 1).getD k (0,(0,0))).2.2):=by
 have:=vM (l:=l.drop 1) (fun x hx=>h x (List.mem_of_mem_drop hx)) k
 exact⟨⟨this.1,this.1⟩,⟨this.2.1,this.2.1⟩,⟨this.2.2,this.2.2⟩⟩
theorem md{p:Prop}[Decidable p](h:(!decide p)=true): ¬p:=by simpa using h
theorem md'{p:Prop}[Decidable p](h: ¬(!decide p)=true):p:=by simpa using h
theorem q1M{a b:Box3}(h: ¬mtC a.1 b.1):false=decide (mtB a b):=(decide_eq_false fun e=>h e.1).symm
theorem q1N{a b:Box3}(h: ¬mtC a.2.1 b.2.1):false=decide (mtB a b):=(decide_eq_false fun e=>h e.2.1).symm
theorem q1O{a b:Box3}(h: ¬mtC a.2.2 b.2.2):false=decide (mtB a b):=(decide_eq_false fun e=>h e.2.2).symm
theorem WR{n:Nat}{t:Tri3}(h: ¬0≤min (min t.1 t.2.1) t.2.2):false=decide (inR n t):=(decide_eq_false fun e=>h (by unfold inR at e;omega)).symm
theorem WS{n:Nat}{t:Tri3}(h:0≤min (min t.1 t.2.1) t.2.2):decide (max (max t.1 t.2.1) t.2.2<(n:Int))=decide (inR n t):=decide_eq_decide.2 (by unfold inR;omega)
theorem DW{n:Nat}{t:Tri3}(h: ¬inR n t):false=decide (inR n t):=(decide_eq_false h).symm
theorem q1R{n:Nat}{t:Tri3}(h1: ¬t.1<0)(h2: ¬(n:Int)≤t.1)(h3: ¬t.2.1<0)(h4: ¬(n:Int)≤t.2.1)(h5: ¬t.2.2<0)(h6: ¬(n:Int)≤t.2.2):true=decide (inR n t):=(decide_eq_true (by unfold inR;omega)).symm
theorem Uo{l:List Dg}(h:Bnd (.sl tDg) (.s 192 bDg) l):(vn l).natAbs≤64:=by
 unfold vn;split
 ·decide
 ·rename_i hl;rw[qE (by omega)];exact(h.2 _ (List.getElem_mem _)).1
theorem Kv{m:Msh}{l:List Dg}{i:Nat}(e:l=badN m i)(hi: ¬i<m.2.1.length)(hl:i≤m.2.1.length)(h: ¬0<l.length): ∀a,a<m.2.1.length→inR m.1.length (triA m a):=by
 rw[show i=m.2.1.length by omega]at e
 exact BT.1 (e▸List.eq_nil_of_length_eq_zero (Nat.eq_zero_of_not_pos h))
theorem Sf{c:Int→Int→Bool}{m:Msh}{l k o:List Dg}{i j q:Nat}(h: ¬szM m)(e:l=badN m i)(hi: ¬i<m.2.1.length)(hl:i≤m.2.1.length)(h2: ¬0<l.length)(e2:k=thnN m j)(hj: ¬j<m.2.1.length)(hk:j≤m.2.1.length)(h3: ¬0<k.length)
  (e3:o=opnN c m q)(hq: ¬q<m.2.1.length)(hr:q≤m.2.1.length):o=mkV (opnN c m m.2.1.length) m:=by
 rw[←q18 h e hi hl h2 e2 hj hk h3,e3,show q=m.2.1.length by omega]
abbrev Va:FI:=⟨293,[.rat,.rat],[(.n 68719476736),(.n 68719476736)],fun _=>[],fun b z=>(fun(x:Rat)(y:Rat)=> .c (.agg [.dt (.pr .rat .rat) (.p (.n (max (b0 b).nb (b1 b).nb)) (.n (max (b0 b).nb (b1 b).nb))) (minQ x y,maxQ x y)])) z.1 z.2⟩
theorem Vb:Va.OK Tryz.prog:=mkF hmix 12 Tryz.func293 rfl rfl (by decide) [(66,.c Df),(131,.c FR)] (fun(x:Rat)(y:Rat) b hx hp=>qP ⟨Ch (Bnds.h2 hx).1 (Bnds.h2 hx).2,J4 (Bnds.h2 hx).1 (Bnds.h2 hx).2⟩) (fun(x:Rat)(y:Rat) hx hp=>by
 refine⟨.nil,kcast (by kernel_rfl) ((Eq.refl (minQ x y,maxQ x y)))⟩)
abbrev V9:Ctr Tryz.prog:=FI.c Vb
abbrev Oe:FI:=⟨266,[.rat],[(.n 68719476736)],fun _=>[],fun b z=>(fun(r:Rat)=> .c (.agg [.dt (.pr .rat .rat) (.p (.n (b0 b).nb) (.n (b0 b).nb)) (r,r)])) z⟩
theorem Of:Oe.OK Tryz.prog:=mkF hmix 6 Tryz.func266 rfl rfl (by decide) [(293,.c V9)] (fun(r:Rat) b hx hp=>qP ⟨(Bnds.h1 hx).rat,(Bnds.h1 hx).rat⟩) (fun(r:Rat) hx hp=>by
 refine⟨.nil,kcast (by kernel_rfl) ((by rw[NZ,NY]:(minQ r r,maxQ r r)=(r,r)))⟩)
abbrev Od:Ctr Tryz.prog:=FI.c Of
abbrev O7:FI:=⟨267,[(.pr .rat .rat),(.pr .rat .rat)],[(.p (.n 64) (.n 64)),(.p (.n 64) (.n 64))],fun z=>(fun(x:Rat×Rat)(y:Rat×Rat)=>[Bnd (.pr .rat .rat) (.p (.n 64) (.n 64)) x,Bnd (.pr .rat .rat) (.p (.n 64) (.n 64)) y]) z.1 z.2,fun b z=>(fun(x:Rat×Rat)(y:Rat×Rat)=> .c (.agg [.dt (.pr .rat .rat) (.p (.n 64) (.n 64)) (minQ x.1 y.1,maxQ x.2 y.2)])) z.1 z.2⟩
theorem O8:O7.OK Tryz.prog:=mkF hmix 16 Tryz.func267 rfl rfl (by decide) [(66,.c Df),(131,.c FR)] (fun(x:Rat×Rat)(y:Rat×Rat) b hx hp=>qP (Yr (hp _ (by simp)) (hp _ (by simp)))) (fun(x:Rat×Rat)(y:Rat×Rat) hx hp=>by
 refine⟨.nil,kcast (by kernel_rfl) ((Eq.refl (minQ x.1 y.1,maxQ x.2 y.2)))⟩)
abbrev O6:Ctr Tryz.prog:=FI.c O8
abbrev Oa:FI:=⟨268,[(.pr .rat .rat),(.pr .rat .rat)],[(.p (.n 64) (.n 64)),(.p (.n 64) (.n 64))],fun z=>(fun(x:Rat×Rat)(y:Rat×Rat)=>[Bnd (.pr .rat .rat) (.p (.n 64) (.n 64)) x,Bnd (.pr .rat .rat) (.p (.n 64) (.n 64)) y]) z.1 z.2,fun b z=>(fun(x:Rat×Rat)(y:Rat×Rat)=> .tup [.agg [.dt (.pr .rat .rat) (.p (.n 64) (.n 64)) (mtV x y)],.one (.dt .bool .u (decide (mtC x y)))]) z.1 z.2⟩
theorem Oc:Oa.OK Tryz.prog:=mkF hmix 26 Tryz.func268 rfl rfl (by decide) [(66,.c Df),(131,.c FR),(133,.c BE)] (fun(x:Rat×Rat)(y:Rat×Rat) b hx hp=>qu (qP (q1K (hp _ (by simp)) (hp _ (by simp)))) (qu (qa trivial rfl) jh)) (fun(x:Rat×Rat)(y:Rat×Rat) hx hp=>by
 refine⟨.nil,kcast (by kernel_rfl) (Sp (0<cmpQ (maxQ x.1 y.1) (minQ x.2 y.2)) (fun h1=>And.intro ((if_pos h1).symm:(0,0)=mtV x y) ((decide_eq_false (fun e=>e h1)).symm:false=decide (mtC x y))) (fun h2=>And.intro ((if_neg h2).symm:(maxQ x.1 y.1,minQ x.2 y.2)=mtV x y) ((decide_eq_true h2).symm:true=decide (mtC x y))))⟩)
abbrev O9:Ctr Tryz.prog:=FI.c Oc
abbrev YM:FI:=⟨228,[(.sl (.pr .rat (.pr .rat .rat)))],[(.s 64 (.p (.n 64) (.p (.n 64) (.n 64))))],fun z=>(fun(l:List (Rat×Rat×Rat))=>[Bnd (.sl tV3) (.s 64 (bV3 64)) l,0<l.length]) z,fun b z=>(fun(l:List (Rat×Rat×Rat))=> .tup [.agg [.dt tBox bBox (boxV l)],.one (.kn .i64 0)]) z⟩
theorem YN:YM.OK Tryz.prog:=mkF hmix 43 Tryz.func228 rfl rfl (by decide) [(266,.c Od),(267,.c O6)] (fun(l:List (Rat×Rat×Rat)) b hx hp=>qu (qP (It (hp _ (by simp)))) (qu (qa trivial rfl) jh)) (fun(l:List (Rat×Rat×Rat)) hx hp=>by
 have hl0:l.length≤64:=hx.1
 have he0: ∀u∈l,Bnd (.pr .rat (.pr .rat .rat)) (.p (.n 64) (.p (.n 64) (.n 64))) u:=hx.2
 have hp1:0<l.length:=hp _ (List.mem_cons_of_mem _ (List.mem_cons_self))
 have hdl:(l.drop 1).length=l.length-1:=by simp
 refine⟨.cond (.dead) (.pre 5 (.drop []) (.loop [.s 26 (.nat .i64) (.n 1048576),.r 4 (.pr (.pr .rat .rat) (.pr (.pr .rat .rat) (.pr .rat .rat))) (.p (.p (.n 64) (.n 64)) (.p (.p (.n 64) (.n 64)) (.p (.n 64) (.n 64))))] (fun((k0,B0):Nat×(Rat×Rat)×(Rat×Rat)×Rat×Rat)=>B0=(bxN (fun p=>p.1) l k0,((0:Rat),(0:Rat)),((0:Rat),(0:Rat)))∧k0≤(l.drop 1).length) (fun((k0,B0):Nat×(Rat×Rat)×(Rat×Rat)×Rat×Rat)=>(l.drop 1).length-k0) (fun((k0,B0):Nat×(Rat×Rat)×(Rat×Rat)×Rat×Rat)=> .cond (.nil) (.pre 5 (.drop []) (.loop [.s 26 (.nat .i64) (.n 1048576),.r 4 (.pr (.pr .rat .rat) (.pr (.pr .rat .rat) (.pr .rat .rat))) (.p (.p (.n 64) (.n 64)) (.p (.p (.n 64) (.n 64)) (.p (.n 64) (.n 64))))] (fun((k1,B1):Nat×(Rat×Rat)×(Rat×Rat)×Rat×Rat)=>B1=(bxN (fun p=>p.1) l (l.drop 1).length,bxN (fun p=>p.2.1) l k1,((0:Rat),(0:Rat)))∧k1≤(l.drop 1).length) (fun((k1,B1):Nat×(Rat×Rat)×(Rat×Rat)×Rat×Rat)=>(l.drop 1).length-k1) (fun((k1,B1):Nat×(Rat×Rat)×(Rat×Rat)×Rat×Rat)=> .cond (.nil) (.pre 5 (.drop []) (.loop [.s 26 (.nat .i64) (.n 1048576),.r 4 (.pr (.pr .rat .rat) (.pr (.pr .rat .rat) (.pr .rat .rat))) (.p (.p (.n 64) (.n 64)) (.p (.p (.n 64) (.n 64)) (.p (.n 64) (.n 64))))] (fun((k2,B2):Nat×(Rat×Rat)×(Rat×Rat)×Rat×Rat)=>B2=(bxN (fun p=>p.1) l (l.drop 1).length,bxN (fun p=>p.2.1) l (l.drop 1).length,bxN (fun p=>p.2.2) l k2)∧k2≤(l.drop 1).length) (fun((k2,B2):Nat×(Rat×Rat)×(Rat×Rat)×Rat×Rat)=>(l.drop 1).length-k2) (fun((k2,B2):Nat×(Rat×Rat)×(Rat×Rat)×Rat×Rat)=> .cond (.nil) (.pre 5 (.drop []) (.nil))))))))))),kcast (by kernel_rfl) (Sp (l.length=0) (fun h1=>(?_:False)) (fun h2=>I (?_:0<l.length) (I (?_:1≤l.length) (I (⟨by rfl,Nat.zero_le _⟩:(((l.getD 0 (0,(0,0))).1,(l.getD 0 (0,(0,0))).1),(0,0),0,0)=(bxN (fun p=>p.1) l 0,((0:Rat),(0:Rat)),((0:Rat),(0:Rat)))∧0≤(l.drop 1).length) (fun(k0:Nat)(B0:(Rat×Rat)×(Rat×Rat)×Rat×Rat)(hb3:HB [.s 26 (.nat .i64) (.n 1048576),.r 4 (.pr (.pr .rat .rat) (.pr (.pr .rat .rat) (.pr .rat .rat))) (.p (.p (.n 64) (.n 64)) (.p (.p (.n 64) (.n 64)) (.p (.n 64) (.n 64))))] (k0,B0))(hI0:B0=(bxN (fun p=>p.1) l k0,((0:Rat),(0:Rat)),((0:Rat),(0:Rat)))∧k0≤(l.drop 1).length)=>have hv14:=(show k0≤1048576 from hb3.1);have hBb0:=(show Bnd tBox bBox B0 from hb3.2);Sp (k0<(l.drop 1).length) (fun h4=>I (?_:k0<(l.drop 1).length) (I (by first|exact hBb2.2.2|exact hBb1.2.1|exact hBb0.1:Bnd (.pr .rat .rat) (.p (.n 64) (.n 64)) B0.1) (I (?_:Bnd (.pr .rat .rat) (.p (.n 64) (.n 64)) (((l.drop 1).getD k0 (0,(0,0))).1,((l.drop 1).getD k0 (0,(0,0))).1)) (I (show(k0+1)≤1048576 by omega:Bnd (.nat .i64) (.n 1048576) (k0+1)) (And.intro (⟨by rw[hI0.1];rfl,by omega⟩:((minQ B0.1.1 (((l.drop 1).getD k0 (0,(0,0))).1),maxQ B0.1.2 (((l.drop 1).getD k0 (0,(0,0))).1)),B0.2)=(bxN (fun p=>p.1) l (k0+1),((0:Rat),(0:Rat)),((0:Rat),(0:Rat)))∧(k0+1)≤(l.drop 1).length) (?_:(l.drop 1).length-(k0+1)<(l.drop 1).length-k0)))))) (fun h5=>I (?_:0<l.length) (I (?_:1≤l.length) (I (⟨by rw[hI0.1,show k0=(l.drop 1).length by omega];rfl,Nat.zero_le _⟩:(B0.1,(((l.getD 0 (0,(0,0))).2).1,((l.getD 0 (0,(0,0))).2).1),B0.2.2)=(bxN (fun p=>p.1) l (l.drop 1).length,bxN (fun p=>p.2.1) l 0,((0:Rat),(0:Rat)))∧0≤(l.drop 1).length) (fun(k1:Nat)(B1:(Rat×Rat)×(Rat×Rat)×Rat×Rat)(hb6:HB [.s 26 (.nat .i64) (.n 1048576),.r 4 (.pr (.pr .rat .rat) (.pr (.pr .rat .rat) (.pr .rat .rat))) (.p (.p (.n 64) (.n 64)) (.p (.p (.n 64) (.n 64)) (.p (.n 64) (.n 64))))] (k1,B1))(hI1:B1=(bxN (fun p=>p.1) l (l.drop 1).length,bxN (fun p=>p.2.1) l k1,((0:Rat),(0:Rat)))∧k1≤(l.drop 1).length)=>have hv13:=(show k1≤1048576 from hb6.1);have hBb1:=(show Bnd tBox bBox B1 from hb6.2);Sp (k1<(l.drop 1).length) (fun h7=>I (?_:k1<(l.drop 1).length) (I (by first|exact hBb2.2.2|exact hBb1.2.1|exact hBb0.1:Bnd (.pr .rat .rat) (.p (.n 64) (.n 64)) B1.2.1) (I (?_:Bnd (.pr .rat .rat) (.p (.n 64) (.n 64)) ((((l.drop 1).getD k1 (0,(0,0))).2).1,(((l.drop 1).getD k1 (0,(0,0))).2).1)) (I (show(k1+1)≤1048576 by omega:Bnd (.nat .i64) (.n 1048576) (k1+1)) (And.intro (⟨by rw[hI1.1];rfl,by omega⟩:(B1.1,(minQ B1.2.1.1 ((((l.drop 1).getD k1 (0,(0,0))).2).1),maxQ B1.2.1.2 ((((l.drop 1).getD k1 (0,(0,0))).2).1)),B1.2.2)=(bxN (fun p=>p.1) l (l.drop 1).length,bxN (fun p=>p.2.1) l (k1+1),((0:Rat),(0:Rat)))∧(k1+1)≤(l.drop 1).length) (?_:(l.drop 1).length-(k1+1)<(l.drop 1).length-k1)))))) (fun h8=>I (?_:0<l.length) (I (?_:1≤l.length) (I (⟨by rw[hI1.1,show k1=(l.drop 1).length by omega];rfl,Nat.zero_le _⟩:(B1.1,B1.2.1,((l.getD 0 (0,(0,0))).2).2,((l.getD 0 (0,(0,0))).2).2)=(bxN (fun p=>p.1) l (l.drop 1).length,bxN (fun p=>p.2.1) l (l.drop 1).length,bxN (fun p=>p.2.2) l 0)∧0≤(l.drop 1).length) (fun(k2:Nat)(B2:(Rat×Rat)×(Rat×Rat)×Rat×Rat)(hb9:HB [.s 26 (.nat .i64) (.n 1048576),.r 4 (.pr (.pr .rat .rat) (.pr (.pr .rat .rat) (.pr .rat .rat))) (.p (.p (.n 64) (.n 64)) (.p (.p (.n 64) (.n 64)) (.p (.n 64) (.n 64))))] (k2,B2))(hI2:B2=(bxN (fun p=>p.1) l (l.drop 1).length,bxN (fun p=>p.2.1) l (l.drop 1).length,bxN (fun p=>p.2.2) l k2)∧k2≤(l.drop 1).length)=>have hv12:=(show k2≤1048576 from hb9.1);have hBb2:=(show Bnd tBox bBox B2 from hb9.2);Sp (k2<(l.drop 1).length) (fun h10=>I (?_:k2<(l.drop 1).length) (I (by first|exact hBb2.2.2|exact hBb1.2.1|exact hBb0.1:Bnd (.pr .rat .rat) (.p (.n 64) (.n 64)) B2.2.2) (I (?_:Bnd (.pr .rat .rat) (.p (.n 64) (.n 64)) ((((l.drop 1).getD k2 (0,(0,0))).2).2,(((l.drop 1).getD k2 (0,(0,0))).2).2)) (I (show(k2+1)≤1048576 by omega:Bnd (.nat .i64) (.n 1048576) (k2+1)) (And.intro (⟨by rw[hI2.1];rfl,by omega⟩:(B2.1,B2.2.1,minQ B2.2.2.1 ((((l.drop 1).getD k2 (0,(0,0))).2).2),maxQ B2.2.2.2 ((((l.drop 1).getD k2 (0,(0,0))).2).2))=(bxN (fun p=>p.1) l (l.drop 1).length,bxN (fun p=>p.2.1) l (l.drop 1).length,bxN (fun p=>p.2.2) l (k2+1))∧(k2+1)≤(l.drop 1).length) (?_:(l.drop 1).length-(k2+1)<(l.drop 1).length-k2)))))) (fun h11=>(by rw[hI2.1,show k2=(l.drop 1).length by omega];rfl:B2=boxV l)))))))))))))))⟩<;>first|omega|(first|exact(LR he0 _).1|exact(LR he0 _).2.1|exact(LR he0 _).2.2))
abbrev YL:Ctr Tryz.prog:=FI.c YN
abbrev UB:FI:=⟨229,[(.pr (.pr .rat .rat) (.pr (.pr .rat .rat) (.pr .rat .rat))),(.pr (.pr .rat .rat) (.pr (.pr .rat .rat) (.pr .rat .rat)))],[(.p (.p (.n 64) (.n 64)) (.p (.p (.n 64) (.n 64)) (.p (.n 64) (.n 64)))),(.p (.p (.n 64) (.n 64)) (.p (.p (.n 64) (.n 64)) (.p (.n 64) (.n 64))))],fun z=>(fun(a:(Rat×Rat)×(Rat×Rat)×Rat×Rat)(b_:(Rat×Rat)×(Rat×Rat)×Rat×Rat)=>[Bnd tBox bBox a,Bnd tBox bBox b_]) z.1 z.2,fun b z=>(fun(a:(Rat×Rat)×(Rat×Rat)×Rat×Rat)(b_:(Rat×Rat)×(Rat×Rat)×Rat×Rat)=> .c (.one (.dt .bool .u (decide (mtB a b_))))) z.1 z.2⟩
theorem UC:UB.OK Tryz.prog:=mkF hmix 24 Tryz.func229 rfl rfl (by decide) [(268,.c O9)] (fun(a:(Rat×Rat)×(Rat×Rat)×Rat×Rat)(b_:(Rat×Rat)×(Rat×Rat)×Rat×Rat) b hx hp=>qa trivial rfl) (fun(a:(Rat×Rat)×(Rat×Rat)×Rat×Rat)(b_:(Rat×Rat)×(Rat×Rat)×Rat×Rat) hx hp=>by
 have hp0:Bnd tBox bBox a:=hp _ (List.mem_cons_self)
 have hp1:Bnd tBox bBox b_:=hp _ (List.mem_cons_of_mem _ (List.mem_cons_self))
 refine⟨.nil,kcast (by kernel_rfl) (I (by first|exact hp0.1|exact hp0.2.1|exact hp0.2.2:Bnd (.pr .rat .rat) (.p (.n 64) (.n 64)) a.1) (I (by first|exact hp1.1|exact hp1.2.1|exact hp1.2.2:Bnd (.pr .rat .rat) (.p (.n 64) (.n 64)) b_.1) (Sp ((!(decide (mtC a.1 b_.1)))=true) (fun h1=>(q1M (md h1):false=decide (mtB a b_))) (fun h2=>I (by first|exact hp0.1|exact hp0.2.1|exact hp0.2.2:Bnd (.pr .rat .rat) (.p (.n 64) (.n 64)) a.2.1) (I (by first|exact hp1.1|exact hp1.2.1|exact hp1.2.2:Bnd (.pr .rat .rat) (.p (.n 64) (.n 64)) b_.2.1) (Sp ((!(decide (mtC a.2.1 b_.2.1)))=true) (fun h3=>(q1N (md h3):false=decide (mtB a b_))) (fun h4=>I (by first|exact hp0.1|exact hp0.2.1|exact hp0.2.2:Bnd (.pr .rat .rat) (.p (.n 64) (.n 64)) a.2.2) (I (by first|exact hp1.1|exact hp1.2.1|exact hp1.2.2:Bnd (.pr .rat .rat) (.p (.n 64) (.n 64)) b_.2.2) (Sp ((!(decide (mtC a.2.2 b_.2.2)))=true) (fun h5=>(q1O (md h5):false=decide (mtB a b_))) (fun h6=>((decide_eq_true ⟨md' h2,md' h4,md' h6⟩).symm:true=decide (mtB a b_))))))))))))⟩)
abbrev UA:Ctr Tryz.prog:=FI.c UC
abbrev Qk:FI:=⟨155,[(.pr (.pr .rat (.pr .rat .rat)) (.pr (.pr .rat (.pr .rat .rat)) (.pr .rat (.pr .rat .rat)))),(.pr (.pr .rat (.pr .rat .rat)) (.pr (.pr .rat (.pr .rat .rat)) (.pr .rat (.pr .rat .rat))))],[(.p (.p (.n 64) (.p (.n 64) (.n 64))) (.p (.p (.n 64) (.p (.n 64) (.n 64))) (.p (.n 64) (.p (.n 64) (.n 64))))),(.p (.p (.n 64) (.p (.n 64) (.n 64))) (.p (.p (.n 64) (.p (.n 64) (.n 64))) (.p (.n 64) (.p (.n 64) (.n 64)))))],fun z=>(fun(a:(Rat×Rat×Rat)×(Rat×Rat×Rat)×Rat×Rat×Rat)(b_:(Rat×Rat×Rat)×(Rat×Rat×Rat)×Rat×Rat×Rat)=>[Bnd tT3 (bT3 64) a,Bnd tT3 (bT3 64) b_]) z.1 z.2,fun b z=>(fun(a:(Rat×Rat×Rat)×(Rat×Rat×Rat)×Rat×Rat×Rat)(b_:(Rat×Rat×Rat)×(Rat×Rat×Rat)×Rat×Rat×Rat)=> .c (.one (.dt .bool .u (decide (aprt a b_))))) z.1 z.2⟩
theorem Ql:Qk.OK Tryz.prog:=mkF hmix 23 Tryz.func155 rfl rfl (by decide) [(228,.c YL),(229,.c UA)] (fun(a:(Rat×Rat×Rat)×(Rat×Rat×Rat)×Rat×Rat×Rat)(b_:(Rat×Rat×Rat)×(Rat×Rat×Rat)×Rat×Rat×Rat) b hx hp=>qa trivial rfl) (fun(a:(Rat×Rat×Rat)×(Rat×Rat×Rat)×Rat×Rat×Rat)(b_:(Rat×Rat×Rat)×(Rat×Rat×Rat)×Rat×Rat×Rat) hx hp=>by
 have hp0:Bnd tT3 (bT3 64) a:=hp _ (List.mem_cons_self)
 have hp1:Bnd tT3 (bT3 64) b_:=hp _ (List.mem_cons_of_mem _ (List.mem_cons_self))
 refine⟨.pre 1 (.ex (frzP 2 (.pr (.pr .rat (.pr .rat .rat)) (.pr (.pr .rat (.pr .rat .rat)) (.pr .rat (.pr .rat .rat)))) (.p (.p (.n 64) (.p (.n 64) (.n 64))) (.p (.p (.n 64) (.p (.n 64) (.n 64))) (.p (.n 64) (.p (.n 64) (.n 64))))) [2])) (.h 1 0 (.ext (vu (.pr .rat (.pr .rat .rat)) (.p (.n 64) (.p (.n 64) (.n 64))))) (.pre 2 (.ex (frzP 3 (.pr (.pr .rat (.pr .rat .rat)) (.pr (.pr .rat (.pr .rat .rat)) (.pr .rat (.pr .rat .rat)))) (.p (.p (.n 64) (.p (.n 64) (.n 64))) (.p (.p (.n 64) (.p (.n 64) (.n 64))) (.p (.n 64) (.p (.n 64) (.n 64))))) [3])) (.h 2 0 (.ext (vu (.pr .rat (.pr .rat .rat)) (.p (.n 64) (.p (.n 64) (.n 64))))) (.nil)))),kcast (by kernel_rfl) (I (I3 hp0:Bnd (.sl tV3) (.s 64 (bV3 64)) [a.1,a.2.1,a.2.2]) (I (Nat.succ_pos _:0<[a.1,a.2.1,a.2.2].length) (I (I3 hp1:Bnd (.sl tV3) (.s 64 (bV3 64)) [b_.1,b_.2.1,b_.2.2]) (I (Nat.succ_pos _:0<[b_.1,b_.2.1,b_.2.2].length) (I (It (I3 hp0):Bnd tBox bBox (boxV [a.1,a.2.1,a.2.2])) (I (It (I3 hp1):Bnd tBox bBox (boxV [b_.1,b_.2.1,b_.2.2])) ((by simp only[decide_not];rfl:(!(decide (mtB (boxV [a.1,a.2.1,a.2.2]) (boxV [b_.1,b_.2.1,b_.2.2]))))=decide (aprt a b_)))))))))⟩)
abbrev Qj:Ctr Tryz.prog:=FI.c Ql
abbrev Qq:FI:=⟨89,[(.pr (.sl (.pr .rat (.pr .rat .rat))) (.pr (.sl (.pr (.int .i64) (.pr (.int .i64) (.int .i64)))) (.sl (.int .i64)))),(.pr (.int .i64) (.pr (.int .i64) (.int .i64)))],[(.p (.s 64 (.p (.n 64) (.p (.n 64) (.n 64)))) (.p (.s 64 (.p (.n 1048576) (.p (.n 1048576) (.n 1048576)))) (.s 64 (.n 1048576)))),(.p (.n 1048576) (.p (.n 1048576) (.n 1048576)))],fun z=>(fun(m:(List (Rat×Rat×Rat))×(List (Int×Int×Int))×List Int)(t:Int×Int×Int)=>[Bnd tMsh bMsh m,inR m.1.length t]) z.1 z.2,fun b z=>(fun(m:(List (Rat×Rat×Rat))×(List (Int×Int×Int))×List Int)(t:Int×Int×Int)=> .c (.agg [.dt tT3 (bT3 64) (qQ m.1 t)])) z.1 z.2⟩
theorem Qr:Qq.OK Tryz.prog:=mkF hmix 24 Tryz.func89 rfl rfl (by decide) [] (fun(m:(List (Rat×Rat×Rat))×(List (Int×Int×Int))×List Int)(t:Int×Int×Int) b hx hp=>qP (vU (hp _ List.mem_cons_self).1.2 t)) (fun(m:(List (Rat×Rat×Rat))×(List (Int×Int×Int))×List Int)(t:Int×Int×Int) hx hp=>by
 have hp1:inR m.1.length t:=hp _ (List.mem_cons_of_mem _ (List.mem_cons_self))
 refine⟨.h 1 4 (.ix t.1.toNat) (.h 1 10 (.ix t.2.1.toNat) (.h 1 16 (.ix t.2.2.toNat) (.nil))),kcast (by kernel_rfl) (I (by have:=hp1;unfold inR at this;omega:t.1=((t.1.toNat:Nat):Int)) (I (by have:=hp1;unfold inR at this;omega:t.1.toNat<m.1.length) (I (by have:=hp1;unfold inR at this;omega:t.2.1=((t.2.1.toNat:Nat):Int)) (I (by have:=hp1;unfold inR at this;omega:t.2.1.toNat<m.1.length) (I (by have:=hp1;unfold inR at this;omega:t.2.2=((t.2.2.toNat:Nat):Int)) (I (by have:=hp1;unfold inR at this;omega:t.2.2.toNat<m.1.length) ((rfl:(m.1.getD t.1.toNat (0,(0,0)),m.1.getD t.2.1.toNat (0,(0,0)),m.1.getD t.2.2.toNat (0,(0,0)))=qQ m.1 t))))))))⟩)
abbrev J5:Ctr Tryz.prog:=FI.c Qr
abbrev R9:FI:=⟨93,[(.pr (.sl (.pr .rat (.pr .rat .rat))) (.pr (.sl (.pr (.int .i64) (.pr (.int .i64) (.int .i64)))) (.sl (.int .i64)))),(.nat .i64)],[(.p (.s 64 (.p (.n 64) (.p (.n 64) (.n 64)))) (.p (.s 64 (.p (.n 1048576) (.p (.n 1048576) (.n 1048576)))) (.s 64 (.n 1048576)))),(.n 1048576)],fun z=>(fun(m:(List (Rat×Rat×Rat))×(List (Int×Int×Int))×List Int)(i:Nat)=>[Bnd tMsh bMsh m,i<m.2.1.length,inR m.1.length (triA m i)]) z.1 z.2,fun b z=>(fun(m:(List (Rat×Rat×Rat))×(List (Int×Int×Int))×List Int)(i:Nat)=> .c (.agg [.dt tT3 (bT3 64) (qQ m.1 (triA m i))])) z.1 z.2⟩
theorem Ra:R9.OK Tryz.prog:=mkF hmix 30 Tryz.func93 rfl rfl (by decide) [] (fun(m:(List (Rat×Rat×Rat))×(List (Int×Int×Int))×List Int)(i:Nat) b hx hp=>qP (vU (hp _ List.mem_cons_self).1.2 _)) (fun(m:(List (Rat×Rat×Rat))×(List (Int×Int×Int))×List Int)(i:Nat) hx hp=>by
 have hx1:i≤1048576:=hx.2
 have hp1:i<m.2.1.length:=hp _ (List.mem_cons_of_mem _ (List.mem_cons_self))
 have hp2:inR m.1.length (triA m i):=hp _ (List.mem_cons_of_mem _ (List.mem_cons_of_mem _ (List.mem_cons_self)))
 refine⟨.h 2 4 (.ix (((m.2.1.getD i (0,(0,0))).1).toNat)) (.h 2 10 (.ix ((((m.2.1.getD i (0,(0,0))).2).1).toNat)) (.h 2 16 (.ix ((((m.2.1.getD i (0,(0,0))).2).2).toNat)) (.nil))),kcast (by kernel_rfl) (I (?_:i<m.2.1.length) (I (by have:=hp2;unfold inR triA at this;omega:(m.2.1.getD i (0,(0,0))).1=((((m.2.1.getD i (0,(0,0))).1).toNat:Nat):Int)) (I (by have:=hp2;unfold inR triA at this;omega:((m.2.1.getD i (0,(0,0))).1).toNat<m.1.length) (I (by have:=hp2;unfold inR triA at this;omega:((m.2.1.getD i (0,(0,0))).2).1=(((((m.2.1.getD i (0,(0,0))).2).1).toNat:Nat):Int)) (I (by have:=hp2;unfold inR triA at this;omega:(((m.2.1.getD i (0,(0,0))).2).1).toNat<m.1.length) (I (by have:=hp2;unfold inR triA at this;omega:((m.2.1.getD i (0,(0,0))).2).2=(((((m.2.1.getD i (0,(0,0))).2).2).toNat:Nat):Int)) (I (by have:=hp2;unfold inR triA at this;omega:(((m.2.1.getD i (0,(0,0))).2).2).toNat<m.1.length) ((rfl:(m.1.getD (((m.2.1.getD i (0,(0,0))).1).toNat) (0,(0,0)),m.1.getD ((((m.2.1.getD i (0,(0,0))).2).1).toNat) (0,(0,0)),m.1.getD ((((m.2.1.getD i (0,(0,0))).2).2).toNat) (0,(0,0)))=qQ m.1 (triA m i))))))))))⟩<;>omega)
abbrev Jr:Ctr Tryz.prog:=FI.c Ra
abbrev QE:FI:=⟨153,[(.pr (.sl (.pr .rat (.pr .rat .rat))) (.pr (.sl (.pr (.int .i64) (.pr (.int .i64) (.int .i64)))) (.sl (.int .i64)))),(.pr (.int .i64) (.pr (.int .i64) (.int .i64)))],[(.p (.s 64 (.p (.n 64) (.p (.n 64) (.n 64)))) (.p (.s 64 (.p (.n 1048576) (.p (.n 1048576) (.n 1048576)))) (.s 64 (.n 1048576)))),(.p (.n 1048576) (.p (.n 1048576) (.n 1048576)))],fun _=>[],fun b z=>(fun(m:(List (Rat×Rat×Rat))×(List (Int×Int×Int))×List Int)(t:Int×Int×Int)=> .c (.one (.dt .bool .u (decide (inR m.1.length t))))) z.1 z.2⟩
theorem QF:QE.OK Tryz.prog:=mkF hmix 26 Tryz.func153 rfl rfl (by decide) [] (fun(m:(List (Rat×Rat×Rat))×(List (Int×Int×Int))×List Int)(t:Int×Int×Int) b hx hp=>qa trivial rfl) (fun(m:(List (Rat×Rat×Rat))×(List (Int×Int×Int))×List Int)(t:Int×Int×Int) hx hp=>by
 refine⟨.h 1 6 (.ext NA) (.cond (.h 1 15 (.ext NA) (.nil)) (.nil)),kcast (by kernel_rfl) (Sp (0≤min (min t.1 t.2.1) t.2.2) (fun h1=>(WS h1:decide (max (max t.1 t.2.1) t.2.2<((m.1.length:Nat):Int))=decide (inR m.1.length t))) (fun h2=>(WR h2:false=decide (inR m.1.length t))))⟩)
abbrev QD:Ctr Tryz.prog:=FI.c QF
abbrev Rm:FI:=⟨161,[(.pr (.sl (.pr .rat (.pr .rat .rat))) (.pr (.sl (.pr (.int .i64) (.pr (.int .i64) (.int .i64)))) (.sl (.int .i64)))),(.nat .i64)],[(.p (.s 64 (.p (.n 64) (.p (.n 64) (.n 64)))) (.p (.s 64 (.p (.n 1048576) (.p (.n 1048576) (.n 1048576)))) (.s 64 (.n 1048576)))),(.n 1048576)],fun z=>(fun(m:(List (Rat×Rat×Rat))×(List (Int×Int×Int))×List Int)(i:Nat)=>[i<m.2.1.length]) z.1 z.2,fun b z=>(fun(m:(List (Rat×Rat×Rat))×(List (Int×Int×Int))×List Int)(i:Nat)=> .c (.one (.dt .bool .u (decide (inR m.1.length (triA m i)))))) z.1 z.2⟩
theorem Rn:Rm.OK Tryz.prog:=mkF hmix 31 Tryz.func161 rfl rfl (by decide) [] (fun(m:(List (Rat×Rat×Rat))×(List (Int×Int×Int))×List Int)(i:Nat) b hx hp=>qa trivial rfl) (fun(m:(List (Rat×Rat×Rat))×(List (Int×Int×Int))×List Int)(i:Nat) hx hp=>by
 have hx1:i≤1048576:=hx.2
 have hp0:i<m.2.1.length:=hp _ (List.mem_cons_self)
 refine⟨.nil,kcast (by kernel_rfl) (I (?_:i<m.2.1.length) (Sp ((m.2.1.getD i (0,(0,0))).1<0) (fun h1=>(DW (by unfold inR triA;omega):false=decide (inR m.1.length (triA m i)))) (fun h2=>I (?_:i<m.2.1.length) (Sp (((m.1.length:Nat):Int)≤(m.2.1.getD i (0,(0,0))).1) (fun h3=>(DW (by unfold inR triA;omega):false=decide (inR m.1.length (triA m i)))) (fun h4=>I (?_:i<m.2.1.length) (Sp (((m.2.1.getD i (0,(0,0))).2).1<0) (fun h5=>(DW (by unfold inR triA;omega):false=decide (inR m.1.length (triA m i)))) (fun h6=>I (?_:i<m.2.1.length) (Sp (((m.1.length:Nat):Int)≤((m.2.1.getD i (0,(0,0))).2).1) (fun h7=>(DW (by unfold inR triA;omega):false=decide (inR m.1.length (triA m i)))) (fun h8=>I (?_:i<m.2.1.length) (Sp (((m.2.1.getD i (0,(0,0))).2).2<0) (fun h9=>(DW (by unfold inR triA;omega):false=decide (inR m.1.length (triA m i)))) (fun h10=>I (?_:i<m.2.1.length) (Sp (((m.1.length:Nat):Int)≤((m.2.1.getD i (0,(0,0))).2).2) (fun h11=>(DW (by unfold inR triA;omega):false=decide (inR m.1.length (triA m i)))) (fun h12=>(q1R h2 h4 h6 h8 h10 h12:true=decide (inR m.1.length (triA m i))))))))))))))))⟩<;>omega)
abbrev Rl:Ctr Tryz.prog:=FI.c Rn
abbrev QH:FI:=⟨152,[(.int .i64),(.int .i64),(.int .i64)],[(.n 64),(.n 1048576),(.n 1048576)],fun z=>(fun(k:Int)(f:Int)(e:Int)=>[Int.natAbs k≤64,Int.natAbs f≤1048576,Int.natAbs e≤1048576]) z.1 z.2.1 z.2.2,fun b z=>(fun(k:Int)(f:Int)(e:Int)=> .c (.agg [.dt tDg bDg (k,-1,f,-1,e)])) z.1 z.2.1 z.2.2⟩
theorem QI:QH.OK Tryz.prog:=mkF hmix 11 Tryz.func152 rfl rfl (by decide) [] (fun(k:Int)(f:Int)(e:Int) b hx hp=>qP (dg_b (hp _ (by simp)) (hp _ (by simp)) (hp _ (by simp)))) (fun(k:Int)(f:Int)(e:Int) hx hp=>by
 refine⟨.nil,kcast (by kernel_rfl) ((rfl:(k,(-1),f,(-1),e)=(k,-1,f,-1,e)))⟩)
abbrev QG:Ctr Tryz.prog:=FI.c QI
abbrev ZL:FI:=⟨160,[(.int .i64),(.int .i64),(.int .i64)],[(.n 64),(.n 1048576),(.n 1048576)],fun z=>(fun(k:Int)(f:Int)(e:Int)=>[Int.natAbs k≤64,Int.natAbs f≤1048576,Int.natAbs e≤1048576]) z.1 z.2.1 z.2.2,fun b z=>(fun(k:Int)(f:Int)(e:Int)=> .c (.agg [.dt tDg bDg (k,-1,f,-1,e)])) z.1 z.2.1 z.2.2⟩
theorem ZM:ZL.OK Tryz.prog:=mkF hmix 11 Tryz.func160 rfl rfl (by decide) [] (fun(k:Int)(f:Int)(e:Int) b hx hp=>qP (dg_b (hp _ (by simp)) (hp _ (by simp)) (hp _ (by simp)))) (fun(k:Int)(f:Int)(e:Int) hx hp=>by
 refine⟨.nil,kcast (by kernel_rfl) ((rfl:(k,(-1),f,(-1),e)=(k,-1,f,-1,e)))⟩)
abbrev ZK:Ctr Tryz.prog:=FI.c ZM
abbrev VY:FI:=⟨90,[(.sl (.pr (.int .i64) (.pr (.int .i64) (.pr (.int .i64) (.pr (.int .i64) (.int .i64))))))],[(.s 192 (.p (.n 64) (.p (.n 1) (.p (.n 1048576) (.p (.n 1) (.n 1048576))))))],fun z=>(fun(l:List (Int×Int×Int×Int×Int))=>[Bnd (.sl tDg) (.s 192 bDg) l]) z,fun b z=>(fun(l:List (Int×Int×Int×Int×Int))=> .c (.one (.dt (.int .i64) (.n 64) (vn l)))) z⟩
theorem VZ:VY.OK Tryz.prog:=mkF hmix 10 Tryz.func90 rfl rfl (by decide) [] (fun(l:List (Int×Int×Int×Int×Int)) b hx hp=>qa (Uo (hp _ List.mem_cons_self)) rfl) (fun(l:List (Int×Int×Int×Int×Int)) hx hp=>by
 have hl0:l.length≤192:=hx.1
 refine⟨.nil,kcast (by kernel_rfl) (Sp (l.length=0) (fun h1=>((if_pos h1).symm:0=vn l)) (fun h2=>I (?_:0<l.length) (((if_neg h2).symm:(l.getD 0 (0,(0,(0,(0,0))))).1=vn l))))⟩<;>omega)
abbrev VX:Ctr Tryz.prog:=FI.c VZ
end Go.Proofs.YtchgnllhbcadpaaGreat.Sx
