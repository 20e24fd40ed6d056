/-
Own laws, part 7. No condition.
-/
import Derived.Test.YtajflbhmdcgkmaaGreatH6
import Derived.ChangeKeysEq
namespace Go.Proofs.YtajflbhmdcgkmaaGreat.Sx
open Go Go.Proofs
set_option linter.unusedVariables false
set_option linter.unusedSimpArgs false
set_option maxRecDepth 20000
set_option maxHeartbeats 4000000
theorem q2T:FI.OK ⟨45,[q7e,q7e,.rat],[q71,q71,q9p],λz=>(λ(x:q9A)(y:q9A)(q:Rat)=>[0<x.2.1.length,0<y.2.1.length]) z.1 z.2.1 z.2.2,λb z=>(λ(x:q9A)(y:q9A)(q:Rat)=> .tup [.agg [.dt .rat (.n (12*max (b0 b).r.r.mx (b1 b).r.r.mx+8)) (vK x y (q*q)).1],.one (.dt .bool .u (vK x y (q*q)).2)]) z.1 z.2.1 z.2.2⟩ Pg:=mF Tryz.func45 [(13,.cI Cp),(46,.cI Ss),(94,.cI TF),(95,.cI XW),(96,.cI IS),(97,.cI q4X),(98,.cI E9)] (λ(x:q9A)(y:q9A)(q:Rat) b hx hp=>q9 (qB (q3R hx)) (q9 (q8 trivial rfl) qr)) (λ(x:q9A)(y:q9A)(q:Rat) hx hp=>by
 have hp0:0<x.2.1.length:=hp _ (q5Q);have hp1:0<y.2.1.length:=hp _ (q5P _ (q5Q));have hxl:x.2.2.length<=16:=hx.1.2.2.1;have hyl:y.2.2.length<=16:=hx.2.1.2.2.1
 refine⟨.cond .nil<|.cond .nil<|.cond .nil<|.loop [.s 9 q97 q8Y,.r 8 .rat q9b,.r 6 .rat q9b] (λ((j,m,z):Nat×Rat×Rat)=>m=mxN x.2.2 y.2.2 j/\wtsN x.2.2 y.2.2 j=true/\j<=x.2.2.length) (λ((j,m,z):Nat×Rat×Rat)=>x.2.2.length-j) λ((j,m,z):Nat×Rat×Rat)=> .nil,kX (Sp (x.1≠y.1) (λh1=>q6K (congrArg Prod.fst (fc_1 (.inl h1)):0=(vK x y (q*q)).1) (congrArg Prod.snd (fc_1 (.inl h1)):false=(vK x y (q*q)).2)) λh2=>Sp (x.2.2.length≠y.2.2.length) (λh3=>q6K (congrArg Prod.fst (fc_1 (.inr (.inl h3))):0=(vK x y (q*q)).1) (congrArg Prod.snd (fc_1 (.inr (.inl h3))):false=(vK x y (q*q)).2)) λh4=>I2 (?_:0<x.2.1.length) (?_:0<y.2.1.length)<|Sp ((!(decide ((jK x.2.1)=(jK y.2.1))))=true) (λh5=>q6K (congrArg Prod.fst (fc_1 (.inr (.inr (nd h5)))):0=(vK x y (q*q)).1) (congrArg Prod.snd (fc_1 (.inr (.inr (nd h5)))):false=(vK x y (q*q)).2)) λh6=>I (⟨rfl,rfl,q6A _⟩:0=mxN x.2.2 y.2.2 0/\wtsN x.2.2 y.2.2 0=true/\0<=x.2.2.length) λ(j:Nat)(m:Rat)(z:Rat)(hb7:HB [.s 9 q97 q8Y,.r 8 .rat q9b,.r 6 .rat q9b] (j,m,z))(hJ:m=mxN x.2.2 y.2.2 j/\wtsN x.2.2 y.2.2 j=true/\j<=x.2.2.length)=>have hv12:=(show j<=1048576 from hb7.1);have hJj:=hJ.2.2;Sp (j<x.2.2.length) (λh8=>I4 (?_:j<x.2.2.length) (?_:0<y.2.2.length) (?_:j<y.2.2.length) (?_:0<x.2.2.length)<|Sp ((!(decide ((((x.2.2.getD j q9J).2)*((y.2.2.getD 0 q9J).2))=(((y.2.2.getD j q9J).2)*((x.2.2.getD 0 q9J).2)))))=true) (λh9=>q6K (congrArg Prod.fst (fc_2 hJ.2.1 h8 (nd h9)):0=(vK x y (q*q)).1) (congrArg Prod.snd (fc_2 hJ.2.1 h8 (nd h9)):false=(vK x y (q*q)).2)) λh10=>I3 (?_:j<x.2.2.length) (?_:j<y.2.2.length) (qy:Bnd q97 q8Y (j+1)) (q6K (⟨KP hJ.1,N0 hJ.2.1 (nd' h10),by omega⟩:maxQ m (dotQ (subV ((x.2.2.getD j q9J).1) ((y.2.2.getD j q9J).1)) (subV ((x.2.2.getD j q9J).1) ((y.2.2.getD j q9J).1)))=mxN x.2.2 y.2.2 (j+1)/\wtsN x.2.2 y.2.2 (j+1)=true/\(j+1)<=x.2.2.length) (?_:x.2.2.length-(j+1)<x.2.2.length-j))) λh11=>q6K (congrArg Prod.fst (fc_3 h2 h4 (nd' h6) hJ.1 hJ.2.1 (DU h11 hJ.2.2)):m=(vK x y (q*q)).1) (congrArg Prod.snd (fc_3 h2 h4 (nd' h6) hJ.1 hJ.2.1 (DU h11 hJ.2.2)):decide (qL m (q*q)<=0)=(vK x y (q*q)).2))⟩<;>omega)
theorem XR:FI.OK ⟨42,[q1X,q91],[X5,q8k],λz=>(λ(x:q9y)(k:Int)=>[SurfP x,¬jj x≠0,0<=k,k<=3]) z.1 z.2,λb z=>(λ(x:q9y)(k:Int)=> .tup [.agg [.dt vj bCrP (ju x k)],.one (.dt q91 q9v 0)]) z.1 z.2⟩ Pg:=mF Tryz.func42 [(26,.cI He)] (λ(x:q9y)(k:Int) b hx hp=>q2X (hp _ q5Q) k) (λ(x:q9y)(k:Int) hx hp=>by
 have hx1:Int.natAbs k<=9223372036854775808:=hx.2;have hp0:SurfP x:=hp _ (q5Q);have hp1: ¬jj x≠0:=hp _ (q5P _ (q5Q));have hp2:0<=k:=hp _ (q5P _ (q5P _ (q5Q)));have hp3:k<=3:=hp _ (q5P _ (q5P _ (q5P _ (q5Q))));have hxl:x.2.2.2.2.length<=16:=hx.1.2.2.2.2.1
 refine⟨.cond (.dead)<|.h 4 3 (.i .sub)<|.cond (.cond (.h 8 4 (.mk (.gro .rat q9l))<|.loop [.s 9 q97 q8Y,.ex (gboX 8 90001 [(.dt q91 q9v x.1),(.gs 30 x.2.2.1.length 3 16)] [] q82 q7D 1048576)] (λ((i,l):Nat×q9C)=>l=colP k x i/\i<=x.2.2.2.2.length) (λ((i,l):Nat×q9C)=>x.2.2.2.2.length-i) λ((i,l):Nat×q9C)=> .cond (.cond (.dead)<|.h 15 1 (.ext wu)<|.h 15 10 (.mk (.im q82 q7D)) .nil)<|.pre 16 (.frz 90001 true [])<|.pre 999999 (.frz 30 true [4,5]) .nil) (.dead))<|.cond (.h 8 4 (.mk (.gro .rat q9l))<|.loop [.s 9 q97 q8Y,.ex (gboX 8 90001 [(.dt q91 q9v x.1),(.gs 30 x.2.2.1.length 3 16)] [] q82 q7D 1048576)] (λ((i,l):Nat×q9C)=>l=colP k x i/\i<=x.2.2.2.2.length) (λ((i,l):Nat×q9C)=>x.2.2.2.2.length-i) λ((i,l):Nat×q9C)=> .cond (.cond (.h 14 6 (.i .sub)<|.h 15 1 (.ext wu)<|.h 15 10 (.mk (.im q82 q7D)) .nil) (.dead))<|.pre 16 (.frz 90001 true [])<|.pre 999999 (.frz 30 true [4,5]) .nil)<|.cond (.cond (.cond (.dead)<|.h 22 4 (.mk (.gro .rat q9l))<|.h 22 10 (.mk (.gro q82 q7D))<|.pre 999999 (.frz 70 true [4,5])<|.pre 999999 (.frz 76 true [4,5]) .nil) (.dead))<|.cond (.cond (.h 22 4 (.mk (.gro .rat q9l))<|.h 22 10 (.mk (.gro q82 q7D))<|.pre 999999 (.frz 70 true [4,5])<|.pre 999999 (.frz 76 true [4,5]) .nil) (.dead)) (.dead),kX (I (hp0.p:PosS x)<|Sp (jj x≠0) (λh1=>(hp1 h1:False)) λh2=>have hr0:=hp0.r;I (?_:1<=x.2.2.2.2.length)<|Sp (k=0) (λh3=>Sp (k=0) (λh4=>I4 (rfl:([(.dt q91 q9v x.1),(.gs 30 x.2.2.1.length 3 16)]:List WA)=[(.dt q91 q9v x.1),(.gs 30 x.2.2.1.length 3 16)]) (rfl:([]:List WA)=[]) (rfl:0=([]:q9C).length) (⟨rfl,q6A _⟩:([]:q9C)=colP k x 0/\0<=x.2.2.2.2.length) λ(i:Nat)(l:q9C)(hb5:HB [.s 9 q97 q8Y,.ex (gboX 8 90001 [(.dt q91 q9v x.1),(.gs 30 x.2.2.1.length 3 16)] [] q82 q7D 1048576)] (i,l))(hI:l=colP k x i/\i<=x.2.2.2.2.length)=>have hv10:=(show i<=1048576 from hb5.1);have hv11:=(show l.length<=1048576 from hb5.2.1.1);have hll:=(show l.length=i by rw[hI.1,CA]);have hq:=hp0.q i;have hq2:=hp0.ql i;Sp (i<=x.2.2.2.2.length-1) (λh6=>Sp (k=2) (λh7=>(?_:False)) λh8=>I6 (?_:i<x.2.2.2.2.length) (Lq:0<(x.2.2.2.2.getD i []).length) (?_:l.length=l.length) (qy:Bnd q97 q8Y (i+1)) (rfl:([(.dt q91 q9v x.1),(.gs 30 x.2.2.1.length 3 16)]:List WA)=[(.dt q91 q9v x.1),(.gs 30 x.2.2.1.length 3 16)]) (rfl:([]:List WA)=[])<|I2 (Lq:l.length+[(x.2.2.2.2.getD i []).getD 0 q9J].length=(l++[(x.2.2.2.2.getD i []).getD 0 q9J]).length) (Lq:l.length+[(x.2.2.2.2.getD i []).getD 0 q9J].length<=1048576) (q6K (⟨Qj hI.1 (by omega),by omega⟩:l++[(x.2.2.2.2.getD i []).getD 0 q9J]=colP k x (i+1)/\(i+1)<=x.2.2.2.2.length) (?_:x.2.2.2.2.length-(i+1)<x.2.2.2.2.length-i))) λh9=>I (?_:l.length=l.length)<|Id2 (?_:x.2.2.1.length=x.2.2.1.length) (q6K (MB (by omega) (by omega) hI.1 (by omega):(x.1,x.2.2.1,l)=ju x k) (rfl:0=(0:Int)))) λh12=>(h12 h3:False)) λh13=>Sp (k=2) (λh14=>I4 (rfl:([(.dt q91 q9v x.1),(.gs 30 x.2.2.1.length 3 16)]:List WA)=[(.dt q91 q9v x.1),(.gs 30 x.2.2.1.length 3 16)]) (rfl:([]:List WA)=[]) (rfl:0=([]:q9C).length) (⟨rfl,q6A _⟩:([]:q9C)=colP k x 0/\0<=x.2.2.2.2.length) λ(i:Nat)(l:q9C)(hb15:HB [.s 9 q97 q8Y,.ex (gboX 8 90001 [(.dt q91 q9v x.1),(.gs 30 x.2.2.1.length 3 16)] [] q82 q7D 1048576)] (i,l))(hI:l=colP k x i/\i<=x.2.2.2.2.length)=>have hv20:=(show i<=1048576 from hb15.1);have hv21:=(show l.length<=1048576 from hb15.2.1.1);have hll:=(show l.length=i by rw[hI.1,CA]);have hq:=hp0.q i;have hq2:=hp0.ql i;Sp (i<=x.2.2.2.2.length-1) (λh16=>Sp (k=2) (λh17=>I6 (?_:i<x.2.2.2.2.length) (Lq:1<=(x.2.2.2.2.getD i []).length) (?_:i<x.2.2.2.2.length) (Lq:((x.2.2.2.2.getD i []).length) -1<(x.2.2.2.2.getD i []).length) (?_:l.length=l.length) (qy:Bnd q97 q8Y (i+1))<|I4 (rfl:([(.dt q91 q9v x.1),(.gs 30 x.2.2.1.length 3 16)]:List WA)=[(.dt q91 q9v x.1),(.gs 30 x.2.2.1.length 3 16)]) (rfl:([]:List WA)=[]) (Lq:l.length+[(x.2.2.2.2.getD i []).getD (((x.2.2.2.2.getD i []).length) -1) q9J].length=(l++[(x.2.2.2.2.getD i []).getD (((x.2.2.2.2.getD i []).length) -1) q9J]).length) (Lq:l.length+[(x.2.2.2.2.getD i []).getD (((x.2.2.2.2.getD i []).length) -1) q9J].length<=1048576) (q6K (⟨Qk hI.1 (by omega),by omega⟩:l++[(x.2.2.2.2.getD i []).getD (((x.2.2.2.2.getD i []).length) -1) q9J]=colP k x (i+1)/\(i+1)<=x.2.2.2.2.length) (?_:x.2.2.2.2.length-(i+1)<x.2.2.2.2.length-i))) λh18=>(h18 h14:False)) λh19=>I (?_:l.length=l.length)<|Id2 (?_:x.2.2.1.length=x.2.2.1.length) (q6K (MB (by omega) (by omega) hI.1 (by omega):(x.1,x.2.2.1,l)=ju x k) (rfl:0=(0:Int)))) λh22=>Sp (k=1) (λh23=>Sp (k=1) (λh24=>Sp (k=3) (λh25=>(?_:False)) λh26=>I3 (?_:x.2.2.2.2.length-1<x.2.2.2.2.length) (?_:x.2.2.2.1.length=x.2.2.2.1.length) (Lq:(x.2.2.2.2.getD (x.2.2.2.2.length-1) []).length=(x.2.2.2.2.getD (x.2.2.2.2.length-1) []).length) (q6K (RZ (by omega):(x.2.1,x.2.2.2.1,x.2.2.2.2.getD (x.2.2.2.2.length-1) [])=ju x k) (rfl:0=(0:Int)))) λh27=>(h27 h23:False)) λh28=>Sp (k=3) (λh29=>Sp (k=3) (λh30=>I3 (?_:0<x.2.2.2.2.length) (?_:x.2.2.2.1.length=x.2.2.2.1.length) (Lq:(x.2.2.2.2.getD 0 []).length=(x.2.2.2.2.getD 0 []).length) (q6K (S0 (by omega) (by omega):(x.2.1,x.2.2.2.1,x.2.2.2.2.getD 0 [])=ju x k) (rfl:0=(0:Int)))) λh31=>(h31 h29:False)) λh32=>(?_:False))⟩<;>omega)
theorem q2Q:FI.OK ⟨12,[FR,.rat],[Fg,q9p],λz=>(λ(c:(q9x)×List Int)(q:Rat)=>[PanOk c.1]) z.1 z.2,λb z=>(λ(c:(q9x)×List Int)(q:Rat)=> .tup [.one (.dt (.sl Do) (.s 16 bDg) (jI c.1 q).1),.agg [.dt .rat q9b (jI c.1 q).2]]) z.1 z.2⟩ Pg:=mF Tryz.func12 [(26,.cI He),(42,.cI XR),(43,.cI TE),(44,.cI O0),(45,.cI q2T),(46,.cI Ss)] (λ(c:(q9x)×List Int)(q:Rat) b hx hp=>Nt (hp _ q5Q) q) (λ(c:(q9x)×List Int)(q:Rat) hx hp=>by
 have hp0:PanOk c.1:=hp _ (q5Q);have hcl:c.1.length<=4:=hx.1.1.1
 refine⟨.loop [.s 7 q97 q9t,.g 6 90001 q77 q7x 16] (λ((i,out):Nat×List (Int×Int×Int×Int×Int))=>out=vx c.1 i/\i<=c.1.length) (λ((i,out):Nat×List (Int×Int×Int×Int×Int))=>c.1.length-i) λ((i,out):Nat×List (Int×Int×Int×Int×Int))=> .cond (.cond (.h 7 4 (.mk (.im q77 q7x)) .nil) .nil)<|.cond (.pre 9 (.frz 90001 true [6]) .nil)<|.loop [.s 10 q97 q9m,.g 6 90004 q77 q7x 16,.r 9 .rat q9b] (λ((i2,o2,m):Nat×(List (Int×Int×Int×Int×Int))×Rat)=>(o2,m)=jU c.1 (q*q) i2/\i2<=4*c.1.length) (λ((i2,o2,m):Nat×(List (Int×Int×Int×Int×Int))×Rat)=>4*c.1.length-i2) λ((i2,o2,m):Nat×(List (Int×Int×Int×Int×Int))×Rat)=> .cond (.cond .nil<|.loop [.s 14 q97 q9m,.s 13 q91 q9m,.r 9 .rat q9b] (λ((k2,n,y):Nat×Int×Rat)=>(n,y)=inN c.1 (q*q) i2 m k2/\k2<=4*c.1.length) (λ((k2,n,y):Nat×Int×Rat)=>4*c.1.length-k2) λ((k2,n,y):Nat×Int×Rat)=> .cond .nil<|.cond (.h 29 6 (.mk (.im q77 q7x)) .nil) .nil)<|.pre 30 (.frz 90004 true [6]) .nil,kX (I2 (rfl:0=([]:List (Int×Int×Int×Int×Int)).length) (⟨rfl,q6A _⟩:([]:List (Int×Int×Int×Int×Int))=vx c.1 0/\0<=c.1.length) λ(i:Nat)(out:List (Int×Int×Int×Int×Int))(hb1:HB [.s 7 q97 q9t,.g 6 90001 q77 q7x 16] (i,out))(hI:out=vx c.1 i/\i<=c.1.length)=>have hv30:=(show i<=4 from hb1.1);have hv31:=(show out.length<=16 from hb1.2.1);have hIi:=hI.2;have hol:=(show out.length<=i from by rw[hI.1];exact Eo _ _);Sp (i<c.1.length) (λh2=>I2 (?_:i<c.1.length) ((hp0.at (by omega)).p:PosS ((c.1.getD i q9I).1))<|Sp (jj ((c.1.getD i q9I).1)≠0) (λh3=>I4 (?_:out.length=out.length) (qy:Bnd q97 q9t (i+1)) (Lq:out.length+[(jj ((c.1.getD i q9I).1),(-1),(i:Int),(-1),(-1))].length=(out++[(jj ((c.1.getD i q9I).1),(-1),(i:Int),(-1),(-1))]).length) (Lq:out.length+[(jj ((c.1.getD i q9I).1),(-1),(i:Int),(-1),(-1))].length<=16) (q6K (⟨er_y hI.1 h3,by omega⟩:out++[(jj ((c.1.getD i q9I).1),(-1),(i:Int),(-1),(-1))]=vx c.1 (i+1)/\(i+1)<=c.1.length) (?_:c.1.length-(i+1)<c.1.length-i))) λh4=>I2 (qy:Bnd q97 q9t (i+1)) (?_:out.length=out.length) (q6K (⟨Qv hI.1 h4,by omega⟩:out=vx c.1 (i+1)/\(i+1)<=c.1.length) (?_:c.1.length-(i+1)<c.1.length-i))) λh5=>Sp (0<out.length) (λh6=>I (?_:out.length=out.length) (q6K ((cp_1 hI.1 (by omega) h6).1:out=(jI c.1 q).1) ((cp_1 hI.1 (by omega) h6).2:0=(jI c.1 q).2))) λh7=>have hz:=cz hI.1 (by omega) h7;I2 (?_:out.length=out.length) (⟨by rw[q5w (show out.length=0 by omega)];rfl,q6A _⟩:(out,0)=jU c.1 (q*q) 0/\0<=4*c.1.length) λ(i2:Nat)(o2:List (Int×Int×Int×Int×Int))(m:Rat)(hb8:HB [.s 10 q97 q9m,.g 6 90004 q77 q7x 16,.r 9 .rat q9b] (i2,o2,m))(hM:(o2,m)=jU c.1 (q*q) i2/\i2<=4*c.1.length)=>have hv28:=(show i2<=16 from hb8.1);have hv29:=(show o2.length<=16 from hb8.2.1.1);have hMi:=hM.2;have ho2:=(show o2.length<=i2 from by have:=EH c.1 (q*q) i2;rw[<-hM.1]at this;exact this);Sp (i2<4*c.1.length) (λh9=>I5 (?_:i2/4<c.1.length) (hp0.at (by omega):SurfP ((c.1.getD (i2/4) q9I).1)) (hz _ (by omega): ¬jj ((c.1.getD (i2/4) q9I).1)≠0) (?_:0<=((i2%4:Nat):Int)) (?_:((i2%4:Nat):Int)<=3)<|Sp (pntC (ju ((c.1.getD (i2/4) q9I).1) ((i2%4:Nat):Int))=true) (λh10=>I2 (qy:Bnd q97 q9m (i2+1)) (?_:o2.length=o2.length) (q6K (⟨UO hM.1 h10,by omega⟩:(o2,m)=jU c.1 (q*q) (i2+1)/\(i2+1)<=4*c.1.length) (?_:4*c.1.length-(i2+1)<4*c.1.length-i2))) λh11=>I (⟨rfl,q6A _⟩:(0,m)=inN c.1 (q*q) i2 m 0/\0<=4*c.1.length) λ(k2:Nat)(n:Int)(y:Rat)(hb12:HB [.s 14 q97 q9m,.s 13 q91 q9m,.r 9 .rat q9b] (k2,n,y))(hN:(n,y)=inN c.1 (q*q) i2 m k2/\k2<=4*c.1.length)=>have hv25:=(show k2<=16 from hb12.1);have hv26:=(show Int.natAbs n<=16 from hb12.2.1);have hNk:=hN.2;have hkn:=(show 0<=n/\n<=(k2:Int)from by have:=in_k c.1 (q*q) i2 m k2;rw[<-hN.1]at this;exact this);Sp (k2<4*c.1.length) (λh13=>Sp (k2=i2) (λh14=>I (qy:Bnd q97 q9m (k2+1)) (q6K (⟨ir_e hN.1 h14,by omega⟩:(n,y)=inN c.1 (q*q) i2 m (k2+1)/\(k2+1)<=4*c.1.length) (?_:4*c.1.length-(k2+1)<4*c.1.length-k2))) λh15=>I5 (?_:k2/4<c.1.length) (hp0.at (by omega):SurfP ((c.1.getD (k2/4) q9I).1)) (hz _ (by omega): ¬jj ((c.1.getD (k2/4) q9I).1)≠0) (?_:0<=((k2%4:Nat):Int)) (?_:((k2%4:Nat):Int)<=3)<|Sp ((decide (i2%4<2))=(decide (k2%4<2))) (λh16=>I2 ((hp0.at (by omega)).sk _:0<(ju ((c.1.getD (i2/4) q9I).1) ((i2%4:Nat):Int)).2.1.length) (NS ((hp0.at (by omega)).sk _):0<(jk (ju ((c.1.getD (k2/4) q9I).1) ((k2%4:Nat):Int))).2.1.length)<|Sp ((vK (ju ((c.1.getD (i2/4) q9I).1) ((i2%4:Nat):Int)) (jk (ju ((c.1.getD (k2/4) q9I).1) ((k2%4:Nat):Int))) (q*q)).2=true) (λh17=>I2 (qy:Bnd q97 q9m (k2+1)) (iBd:Bnd q91 q9m (n+1)) (q6K (⟨ir_y (fi_y h16) hN.1 h17 h15,by omega⟩:(n+1,maxQ y ((vK (ju ((c.1.getD (i2/4) q9I).1) ((i2%4:Nat):Int)) (jk (ju ((c.1.getD (k2/4) q9I).1) ((k2%4:Nat):Int))) (q*q)).1))=inN c.1 (q*q) i2 m (k2+1)/\(k2+1)<=4*c.1.length) (?_:4*c.1.length-(k2+1)<4*c.1.length-k2))) λh18=>I (qy:Bnd q97 q9m (k2+1)) (q6K (⟨ir_n (fi_y h16) hN.1 h18,by omega⟩:(n,y)=inN c.1 (q*q) i2 m (k2+1)/\(k2+1)<=4*c.1.length) (?_:4*c.1.length-(k2+1)<4*c.1.length-k2))) λh19=>I2 ((hp0.at (by omega)).sk _:0<(ju ((c.1.getD (i2/4) q9I).1) ((i2%4:Nat):Int)).2.1.length) ((hp0.at (by omega)).sk _:0<(ju ((c.1.getD (k2/4) q9I).1) ((k2%4:Nat):Int)).2.1.length)<|Sp ((vK (ju ((c.1.getD (i2/4) q9I).1) ((i2%4:Nat):Int)) (ju ((c.1.getD (k2/4) q9I).1) ((k2%4:Nat):Int)) (q*q)).2=true) (λh20=>I2 (qy:Bnd q97 q9m (k2+1)) (iBd:Bnd q91 q9m (n+1)) (q6K (⟨ir_y (fi_n h19) hN.1 h20 h15,by omega⟩:(n+1,maxQ y ((vK (ju ((c.1.getD (i2/4) q9I).1) ((i2%4:Nat):Int)) (ju ((c.1.getD (k2/4) q9I).1) ((k2%4:Nat):Int)) (q*q)).1))=inN c.1 (q*q) i2 m (k2+1)/\(k2+1)<=4*c.1.length) (?_:4*c.1.length-(k2+1)<4*c.1.length-k2))) λh21=>I (qy:Bnd q97 q9m (k2+1)) (q6K (⟨ir_n (fi_n h19) hN.1 h21,by omega⟩:(n,y)=inN c.1 (q*q) i2 m (k2+1)/\(k2+1)<=4*c.1.length) (?_:4*c.1.length-(k2+1)<4*c.1.length-k2))) λh22=>Sp (n≠1) (λh23=>I4 (?_:o2.length=o2.length) (qy:Bnd q97 q9m (i2+1)) (Lq:o2.length+[(30,(-1),((i2/4:Nat):Int),(-1),((i2%4:Nat):Int))].length=(o2++[(30,(-1),((i2/4:Nat):Int),(-1),((i2%4:Nat):Int))]).length) (Lq:o2.length+[(30,(-1),((i2/4:Nat):Int),(-1),((i2%4:Nat):Int))].length<=16) (q6K (⟨or_2 hM.1 h11 hN.1 (by omega) h23,by omega⟩:(o2++[(30,(-1),((i2/4:Nat):Int),(-1),((i2%4:Nat):Int))],y)=jU c.1 (q*q) (i2+1)/\(i2+1)<=4*c.1.length) (?_:4*c.1.length-(i2+1)<4*c.1.length-i2))) λh24=>I2 (qy:Bnd q97 q9m (i2+1)) (?_:o2.length=o2.length) (q6K (⟨or_1 hM.1 h11 hN.1 (by omega) h24,by omega⟩:(o2,y)=jU c.1 (q*q) (i2+1)/\(i2+1)<=4*c.1.length) (?_:4*c.1.length-(i2+1)<4*c.1.length-i2))) λh27=>I (?_:o2.length=o2.length) (q6K ((cp_2 hI.1 (by omega) h7 hM.1 (by omega)).1:o2=(jI c.1 q).1) ((cp_2 hI.1 (by omega) h7 hM.1 (by omega)).2:m=(jI c.1 q).2)))⟩<;>omega)
theorem Tx:FI.OK ⟨180,[q9e,.rat],[q8t,q9p],λz=>(λ(k:List Rat)(t:Rat)=>[0<k.length]) z.1 z.2,λb z=>(λ(k:List Rat)(t:Rat)=>oO .bool .u (innB k t)) z.1 z.2⟩ Pg:=mF Tryz.func180 [(98,.cI E9)] (λ(k:List Rat)(t:Rat) b hx hp=>q8 trivial rfl) (λ(k:List Rat)(t:Rat) hx hp=>by
 have hl0:k.length<=16:=hx.1.1;have hp0:0<k.length:=hp _ (q5Q)
 refine⟨.cond (.h 1 11 (.i .sub) .nil) .nil,kX (I (?_:0<k.length)<|Sp (qL (k.getD 0 0) t<0) (λh1=>I2 (?_:1<=k.length) (?_:k.length-1<k.length) ((q44 h1:decide (qL t (k.getD (k.length-1) 0)<0)=innB k t))) λh2=>(q43 h2:false=innB k t))⟩<;>omega)
theorem XK:FI.OK ⟨225,[q9e,.rat],[q8t,q9p],λ_=>[],λb z=>(λ(k:List Rat)(t:Rat)=>oO q9e (.s ((b0 b).len+1) (.n ((b0 b).mx+(b1 b).mx))) (vY k t)) z.1 z.2⟩ Pg:=mF Tryz.func225 [(98,.cI E9)] (λ(k:List Rat)(t:Rat) b hx hp=>q8 (QR (Bnds.h2 hx).1 (Bnds.h2 hx).2) rfl) (λ(k:List Rat)(t:Rat) hx hp=>by
 have hl0:k.length<=16:=hx.1.1;have hkl:k.length<=16:=hx.1.1
 refine⟨.loop [.s 7 q97 q9m,.g 5 90001 .rat q9i 32,.s 6 .bool .u] (λ((i,l,d):Nat×List Rat×Bool)=>(l,d)=vu k t i/\i<=k.length) (λ((i,l,d):Nat×List Rat×Bool)=>k.length-i) λ((i,l,d):Nat×List Rat×Bool)=> .cond (.cond (.cond (.h 7 2 (.mk (.im .rat q9i))<|.h 8 5 (.mk (.im .rat q9i)) .nil)<|.h 8 5 (.mk (.im .rat q9i)) .nil)<|.h 8 5 (.mk (.im .rat q9i)) .nil)<|.cond (.h 10 2 (.mk (.im .rat q9i))<|.pre 11 (.frz 41 true [5]) .nil)<|.pre 11 (.frz 90001 true [5]) .nil,kX (I2 (rfl:0=([]:List Rat).length) (⟨rfl,q6A _⟩:(([]:List Rat),false)=vu k t 0/\0<=k.length) λ(i:Nat)(l:List Rat)(d:Bool)(hb1:HB [.s 7 q97 q9m,.g 5 90001 .rat q9i 32,.s 6 .bool .u] (i,l,d))(hI:(l,d)=vu k t i/\i<=k.length)=>have hv10:=(show i<=16 from hb1.1);have hv11:=(show l.length<=32 from hb1.2.1.1);have hIi:=hI.2;have hll:=(q1C hI.1);Sp (i<k.length) (λh2=>Sp ((!d)=true) (λh3=>I (?_:i<k.length)<|Sp (qL t (k.getD i 0)<0) (λh4=>I6 (?_:l.length=l.length) (?_:i<k.length) (Lq:l.length+[t].length=(l++[t]).length) (qy:Bnd q97 q9m (i+1)) (Lq:(l.length+[t].length)+[k.getD i 0].length=((l++[t])++[k.getD i 0]).length) (Lq:(l.length+[t].length)+[k.getD i 0].length<=32) (q6K (⟨ik_1 hI.1 (by simpa using h3) h4,by omega⟩:((l++[t])++[k.getD i 0],true)=vu k t (i+1)/\(i+1)<=k.length) (?_:k.length-(i+1)<k.length-i))) λh5=>I5 (?_:i<k.length) (?_:l.length=l.length) (qy:Bnd q97 q9m (i+1)) (Lq:l.length+[k.getD i 0].length=(l++[k.getD i 0]).length) (Lq:l.length+[k.getD i 0].length<=32) (q6K (⟨ik_2 hI.1 λe=>h5 e.2,by omega⟩:(l++[k.getD i 0],d)=vu k t (i+1)/\(i+1)<=k.length) (?_:k.length-(i+1)<k.length-i))) λh6=>I5 (?_:i<k.length) (?_:l.length=l.length) (qy:Bnd q97 q9m (i+1)) (Lq:l.length+[k.getD i 0].length=(l++[k.getD i 0]).length) (Lq:l.length+[k.getD i 0].length<=32) (q6K (⟨ik_2 hI.1 λe=>h6 (by rw[e.1];rfl),by omega⟩:(l++[k.getD i 0],d)=vu k t (i+1)/\(i+1)<=k.length) (?_:k.length-(i+1)<k.length-i))) λh7=>Sp ((!d)=true) (λh8=>I2 (?_:l.length=l.length) (Lq:l.length+[t].length=(l++[t]).length) ((ik_3 hI.1 (by omega) (by simpa using h8):l++[t]=vY k t))) λh9=>I (?_:l.length=l.length) ((ik_4 hI.1 (by omega) (by simpa using h9):l=vY k t)))⟩<;>omega)
theorem q2W:FI.OK ⟨228,[.rat,q83,q83],[q9c,q7m,q7m],λ_=>[],λb z=>(λ(f:Rat)(x:q9G)(y:q9G)=>oA jx (bF4 (3*max (b1 b).mx (b2 b).mx+(b0 b).nb+2)) (mixF f x y)) z.1 z.2.1 z.2.2⟩ Pg:=mF Tryz.func228 [(96,.cI IS),(150,.cI FE),(151,.cI FD)] (λ(f:Rat)(x:q9G)(y:q9G) b hx hp=>qB (mixb hx)) (λ(f:Rat)(x:q9G)(y:q9G) hx hp=>by
 refine⟨.nil,kX ((rfl:(x.1+(f*(y.1-x.1)),x.2.1+(f*(y.2.1-x.2.1)),x.2.2.1+(f*(y.2.2.1-x.2.2.1)),x.2.2.2+(f*(y.2.2.2-x.2.2.2)))=mixF f x y))⟩)
theorem q2U:FI.OK ⟨181,[q7e,.rat],[q70,q9p],λz=>(λ(c:q9A)(t:Rat)=>[InsO c t]) z.1 z.2,λb z=>(λ(c:q9A)(t:Rat)=>oA vj (bInC (b0 b)) (insC c t)) z.1 z.2⟩ Pg:=mF Tryz.func181 [(117,.cI GV),(150,.cI FE),(224,.cI Xb),(225,.cI XK),(226,.cI Ou),(227,.cI X9),(228,.cI q2W),(229,.cI Yd)] (λ(c:q9A)(t:Rat) b hx hp=>qB (OT (Bnds.h2 hx).1 (hp _ q5Q))) (λ(c:q9A)(t:Rat) hx hp=>by
 have hp0:InsO c t:=hp _ (q5Q);have hcl:c.2.2.length<=16:=hx.1.2.2.1
 refine⟨.loop [.s 10 q97 q9m,.ex (gboX 9 90001 [(.dt q91 q9v c.1),(.dt q9e q8u (vY c.2.1 t))] [] q82 q7q 32)] (λ((i,l):Nat×q9C)=>l=qt (insP c t) i/\i<=c.2.2.length+1) (λ((i,l):Nat×q9C)=>c.2.2.length+1-i) λ((i,l):Nat×q9C)=> .cond (.cond (.h 11 1 (.ext wu)<|.h 11 7 (.mk (.im q82 q7q)) .nil)<|.cond (.h 13 1 (.ext wu)<|.h 13 5 (.i .sub)<|.h 13 8 (.mk (.im q82 q7q)) .nil)<|.h 8 12 (.ix (i+c.1.toNat))<|.h 9 1 (.ext wu)<|.h 9 6 (.i .sub)<|.h 9 18 (.mk (.im q82 q7q)) .nil)<|.pre 14 (.frz 90001 true []) .nil,kX (have hf:=hp0.f;I6 (?_:0<=c.1) (?_:c.1.toNat+2<=c.2.1.length) (rfl:([(.dt q91 q9v c.1),(.dt q9e q8u (vY c.2.1 t))]:List WA)=[(.dt q91 q9v c.1),(.dt q9e q8u (vY c.2.1 t))]) (rfl:([]:List WA)=[]) (rfl:0=([]:q9C).length) (⟨rfl,q6A _⟩:([]:q9C)=qt (insP c t) 0/\0<=c.2.2.length+1) λ(i:Nat)(l:q9C)(hb1:HB [.s 10 q97 q9m,.ex (gboX 9 90001 [(.dt q91 q9v c.1),(.dt q9e q8u (vY c.2.1 t))] [] q82 q7q 32)] (i,l))(hI:l=qt (insP c t) i/\i<=c.2.2.length+1)=>have hv8:=(show i<=16 from hb1.1);have hv9:=(show l.length<=32 from hb1.2.1.1);have hIi:=hI.2;have hll:=(show l.length=i by rw[hI.1,ja]);Sp (i<=c.2.2.length) (λh2=>Sp ((i:Int)<=((jG c.2.1 c.1 t:Nat):Int) -c.1) (λh3=>I6 (?_:i<c.2.2.length) (?_:l.length=l.length) (qy:Bnd q97 q9m (i+1)) (rfl:([(.dt q91 q9v c.1),(.dt q9e q8u (vY c.2.1 t))]:List WA)=[(.dt q91 q9v c.1),(.dt q9e q8u (vY c.2.1 t))]) (rfl:([]:List WA)=[]) (Lq:l.length+[c.2.2.getD i q9J].length=(l++[c.2.2.getD i q9J]).length)<|I (Lq:l.length+[c.2.2.getD i q9J].length<=32) (q6K (⟨ip_1 hI.1 h3,by omega⟩:l++[c.2.2.getD i q9J]=qt (insP c t) (i+1)/\(i+1)<=c.2.2.length+1) (?_:c.2.2.length+1-(i+1)<c.2.2.length+1-i))) λh4=>Sp (((jG c.2.1 c.1 t:Nat):Int) -((qW c.2.1 t c.2.1.length:Nat):Int)<(i:Int)) (λh5=>I6 (?_:1<=i) (?_:i-1<c.2.2.length) (?_:l.length=l.length) (qy:Bnd q97 q9m (i+1)) (rfl:([(.dt q91 q9v c.1),(.dt q9e q8u (vY c.2.1 t))]:List WA)=[(.dt q91 q9v c.1),(.dt q9e q8u (vY c.2.1 t))]) (rfl:([]:List WA)=[])<|I2 (Lq:l.length+[c.2.2.getD (i-1) q9J].length=(l++[c.2.2.getD (i-1) q9J]).length) (Lq:l.length+[c.2.2.getD (i-1) q9J].length<=32) (q6K (⟨ip_2 hI.1 h4 h5,by omega⟩:l++[c.2.2.getD (i-1) q9J]=qt (insP c t) (i+1)/\(i+1)<=c.2.2.length+1) (?_:c.2.2.length+1-(i+1)<c.2.2.length+1-i))) λh6=>I6 (?_:i<c.2.1.length) (?_:(i:Int)+c.1=(((i+c.1.toNat):Nat):Int)) (?_:(i+c.1.toNat)<c.2.1.length) (?_:i<c.2.1.length) (?_:1<=i) (?_:i-1<c.2.2.length)<|I6 (?_:i<c.2.2.length) (?_:l.length=l.length) (qy:Bnd q97 q9m (i+1)) (rfl:([(.dt q91 q9v c.1),(.dt q9e q8u (vY c.2.1 t))]:List WA)=[(.dt q91 q9v c.1),(.dt q9e q8u (vY c.2.1 t))]) (rfl:([]:List WA)=[]) (Lq:l.length+[jJ (mixF ((t-(c.2.1.getD i 0))/((c.2.1.getD (i+c.1.toNat) 0) -(c.2.1.getD i 0))) (zk (c.2.2.getD (i-1) q9J)) (zk (c.2.2.getD i q9J)))].length=(l++[jJ (mixF ((t-(c.2.1.getD i 0))/((c.2.1.getD (i+c.1.toNat) 0) -(c.2.1.getD i 0))) (zk (c.2.2.getD (i-1) q9J)) (zk (c.2.2.getD i q9J)))]).length)<|I (Lq:l.length+[jJ (mixF ((t-(c.2.1.getD i 0))/((c.2.1.getD (i+c.1.toNat) 0) -(c.2.1.getD i 0))) (zk (c.2.2.getD (i-1) q9J)) (zk (c.2.2.getD i q9J)))].length<=32) (q6K (⟨ip_3 hI.1 h4 h6,by omega⟩:l++[jJ (mixF ((t-(c.2.1.getD i 0))/((c.2.1.getD (i+c.1.toNat) 0) -(c.2.1.getD i 0))) (zk (c.2.2.getD (i-1) q9J)) (zk (c.2.2.getD i q9J)))]=qt (insP c t) (i+1)/\(i+1)<=c.2.2.length+1) (?_:c.2.2.length+1-(i+1)<c.2.2.length+1-i))) λh7=>I (?_:l.length=l.length) ((ip_e hI.1 (by omega):(c.1,vY c.2.1 t,l)=insC c t)))⟩<;>omega)
theorem q2M:FI.OK ⟨120,[q7e,.rat],[q70,q9p],λz=>(λ(c:q9A)(t:Rat)=>[InsO c t]) z.1 z.2,λb z=>(λ(c:q9A)(t:Rat)=> .tup [.agg [.dt vj (bInC (b0 b)) (insC c t)],.one (.dt q91 q9v 0)]) z.1 z.2⟩ Pg:=mF Tryz.func120 [(117,.cI GV),(180,.cI Tx),(181,.cI q2U)] (λ(c:q9A)(t:Rat) b hx hp=>q9 (qB (OT (Bnds.h2 hx).1 (hp _ q5Q))) (q9 (q8 (show Int.natAbs 0<=8 by decide) rfl) qr)) (λ(c:q9A)(t:Rat) hx hp=>by
 have hp0:InsO c t:=hp _ (q5Q);have hcl:c.2.2.length<=16:=hx.1.2.2.1
 refine⟨.cond (.dead)<|.cond (.dead)<|.cond (.dead) .nil,kX (have hf:=hp0.f;I (?_:0<c.2.1.length)<|Sp ((!(innB c.2.1 t))=true) (λh1=>(Bool.noConfusion (h1.symm.trans (by rw[hp0.inn])):False)) λh2=>Sp (c.1<=((qW c.2.1 t c.2.1.length:Nat):Int)) (λh3=>(?_:False)) λh4=>Sp (40<=c.2.2.length) (λh5=>(?_:False)) λh6=>I (hp0:InsO c t) (q6K (q6J (insC c t)) (rfl:0=(0:Int))))⟩<;>omega)
section
section
variable {P:Program}
theorem SN{t ty:TypeId}{s b:Nat}{z:Array Value}(hb:elB P t=some (s,b))(hz:elZ P t=some z):
  OpOk P (.buildSlice t 0 #[]) ty [] [] (.c (.one (.abs (fcP [] 0)))) []:=by
 intro dst pos after guard a w H β K Q hins _ _ hon hK;have hz0:vT (BK (0*s) z)=some []:=by rw[q6B];simp[BK,vT]
 obtain⟨T,arr,hrun,hsat⟩:=Av (a:=a) (β:=β) (H:=H) (len:=0) (parts:= #[]) (vs:=[]) (zs:=[]) (cs:=[]) hb hz (by rw[q6B];rfl) hz0 rfl rfl (λp hp=>by cases hp) w;unfold Oper.wp
 have:(execOp a.eval ⟨dst,.buildSlice t 0 #[],ty,pos,after,guard⟩).run P w= .ok (.value (.slice (some ⟨w.heap.size,0,none⟩) 0 0)) (w.alloc (.cells arr T)):=by
  simp only[execOp,q6H,hrun,q6G,q6I]
 rw[this];refine hK _ _ _ β (by simpa[kwOf,qX,vg]using Step.new (β:=β) arr T hon) ?_ (λk b hb=>by simp at hb);exact⟨_,rfl,.inl rfl⟩
def gMkC(P:Program)(t:Ty)(b:Bd):Op->Option Tmp->(Nat->Option WB)->List WV->HR
 | .buildSlice ts 0 ps,_,_,[]=>match elB P ts,elZ P ts,ps.toList with
  |some _,some _,[]=> .ok [] (.c (.one (.fc t (.s 0 b) []))) [] []
  |_,_,_=> .bad
 |_,_,_,_=> .bad
def q1b(t:Ty)(b:Bd):Ext P:=⟨gMkC P t b,by
 intro op dst ty bl vs hl;unfold gMkC;split
 .rename_i ts ps
  split
  .rename_i sb z hb hz hp
   intro hv _ hvc kin hk _;rw[qn hk];refine⟨?_,⟨⟨q6A _,λx hx=>by cases hx⟩,rfl⟩,qx⟩;have he:ps= #[]:=Array.toList_inj.1 (by simpa using hp);subst he;exact SN (s:=sb.1) (b:=sb.2) hb hz
  .exact trivial
 .exact trivial⟩
end
end
theorem Mu:FI.OK ⟨62,[q1X,q97],[Wn,q9m],λz=>(λ(x:q9y)(i:Nat)=>[i<x.2.2.2.2.length]) z.1 z.2,λb z=>(λ(x:q9y)(i:Nat)=>oA vj (bRwS (b0 b)) (rwC x i)) z.1 z.2⟩ Pg:=mF Tryz.func62 [] (λ(x:q9y)(i:Nat) b hx hp=>q2Z (Bnds.h2 hx).1 i) (λ(x:q9y)(i:Nat) hx hp=>by
 have hx1:i<=16:=hx.2;have hp0:i<x.2.2.2.2.length:=hp _ (q5Q)
 refine⟨.nil,kX (I (?_:i<x.2.2.2.2.length) ((rfl:(x.2.1,x.2.2.2.1,x.2.2.2.2.getD i [])=rwC x i)))⟩<;>omega)
theorem Jr:FI.OK ⟨24,[q1X],[Wn],λz=>(λ(x:q9y)=>[RecP x]) z,λb z=>(λ(x:q9y)=>oA qH (bSwp (b0 b)) (qD x)) z⟩ Pg:=mF Tryz.func24 [] (λ(x:q9y) b hx hp=>qB (IF (Bnds.h1 hx))) (λ(x:q9y) hx hp=>by
 have hp0:RecP x:=hp _ (q5Q);have hxl:x.2.2.2.2.length<=16:=hx.2.2.2.2.1
 refine⟨.h 1 4 (.mk (.gro .rat q9g))<|.h 1 8 (.mk (.gro .rat q9g))<|.pre 2 (.frz 14 true [])<|.pre 2 (.frz 18 true [])<|.loop [.s 4 q97 q8Y,.ex (gboX 3 90002 [(.dt q91 q9v x.2.1),(.dt q91 q9v x.1),(.dt q9e q8s (([]:List Rat)++x.2.2.2.1)),(.dt q9e q8s (([]:List Rat)++x.2.2.1))] [] q7N q7j 1048576)] (λ((j,l):Nat×q9B)=>l=swN x j/\j<=(j4 x 0).length) (λ((j,l):Nat×q9B)=>(j4 x 0).length-j) λ((j,l):Nat×q9B)=> .cond (.loop [.s 6 q97 q8Y,.g 5 90001 q82 q7q 16] (λ((i,r):Nat×q9C)=>r=colN x j i/\i<=x.2.2.2.2.length) (λ((i,r):Nat×q9C)=>x.2.2.2.2.length-i) λ((i,r):Nat×q9C)=> .cond (.h 9 9 (.mk (.im q82 q7q)) .nil)<|.pre 10 (.frz 90001 true [5])<|.h 10 1 (.ext wu)<|.h 10 3 (.mk (.im q7N q7j)) .nil)<|.pre 11 (.frz 90002 true []) .nil,kX (Id2 (rfl:0=([]:List Rat).length)<|I2 (Lq:0+x.2.2.2.1.length=(([]:List Rat)++x.2.2.2.1).length) (Lq:0+x.2.2.1.length=(([]:List Rat)++x.2.2.1).length) (have hp9:=hp0.r;I4 (rfl:([(.dt q91 q9v x.2.1),(.dt q91 q9v x.1),(.dt q9e q8s (([]:List Rat)++x.2.2.2.1)),(.dt q9e q8s (([]:List Rat)++x.2.2.1))]:List WA)=[(.dt q91 q9v x.2.1),(.dt q91 q9v x.1),(.dt q9e q8s (([]:List Rat)++x.2.2.2.1)),(.dt q9e q8s (([]:List Rat)++x.2.2.1))]) (rfl:([]:List WA)=[]) (rfl:0=([]:q9B).length) (⟨rfl,q6A _⟩:([]:q9B)=swN x 0/\0<=(j4 x 0).length) λ(j:Nat)(l:q9B)(hb1:HB [.s 4 q97 q8Y,.ex (gboX 3 90002 [(.dt q91 q9v x.2.1),(.dt q91 q9v x.1),(.dt q9e q8s (([]:List Rat)++x.2.2.2.1)),(.dt q9e q8s (([]:List Rat)++x.2.2.1))] [] q7N q7j 1048576)] (j,l))(hI:l=swN x j/\j<=(j4 x 0).length)=>have hv9:=(show j<=1048576 from hb1.1);have hv10:=(show l.length<=1048576 from hb1.2.1.1);have hq0:=(show(j4 x 0).length=(x.2.2.2.2.getD 0 []).length from rfl);have hq1:=(show(x.2.2.2.2.getD 0 []).length<=16 from(Iy (Bnds.h1 hx) 0).1);have hl0:=(show l.length=j by rw[hI.1,Bt]);I (?_:0<x.2.2.2.2.length)<|Sp (j<(x.2.2.2.2.getD 0 []).length) (λh2=>I2 (rfl:0=([]:q9C).length) (⟨rfl,q6A _⟩:([]:q9C)=colN x j 0/\0<=x.2.2.2.2.length) λ(i:Nat)(r:q9C)(hb3:HB [.s 6 q97 q8Y,.g 5 90001 q82 q7q 16] (i,r))(hJ:r=colN x j i/\i<=x.2.2.2.2.length)=>have hv6:=(show i<=1048576 from hb3.1);have hv7:=(show r.length<=16 from hb3.2.1);have hr0:=(show r.length=i by rw[hJ.1,Ek]);have hrw:=(show i<x.2.2.2.2.length->(x.2.2.2.2.getD i []).length=(x.2.2.2.2.getD 0 []).length from hp0.e i);Sp (i<x.2.2.2.2.length) (λh4=>I6 (?_:i<x.2.2.2.2.length) (Lq:j<(x.2.2.2.2.getD i []).length) (?_:r.length=r.length) (qy:Bnd q97 q8Y (i+1)) (Lq:r.length+[(x.2.2.2.2.getD i []).getD j q9J].length=(r++[(x.2.2.2.2.getD i []).getD j q9J]).length) (Lq:r.length+[(x.2.2.2.2.getD i []).getD j q9J].length<=16) (q6K (⟨q0Y hJ.1,by omega⟩:r++[(x.2.2.2.2.getD i []).getD j q9J]=colN x j (i+1)/\(i+1)<=x.2.2.2.2.length) (?_:x.2.2.2.2.length-(i+1)<x.2.2.2.2.length-i))) λh5=>I6 (?_:r.length=r.length) (?_:l.length=l.length) (qy:Bnd q97 q8Y (j+1)) (rfl:([(.dt q91 q9v x.2.1),(.dt q91 q9v x.1),(.dt q9e q8s (([]:List Rat)++x.2.2.2.1)),(.dt q9e q8s (([]:List Rat)++x.2.2.1))]:List WA)=[(.dt q91 q9v x.2.1),(.dt q91 q9v x.1),(.dt q9e q8s (([]:List Rat)++x.2.2.2.1)),(.dt q9e q8s (([]:List Rat)++x.2.2.1))]) (rfl:([]:List WA)=[]) (Lq:l.length+[r].length=(l++[r]).length)<|I (Lq:l.length+[r].length<=1048576) (q6K (⟨q5a hI.1 hJ.1 h5 hJ.2,by omega⟩:l++[r]=swN x (j+1)/\(j+1)<=(j4 x 0).length) (?_:(j4 x 0).length-(j+1)<(j4 x 0).length-j))) λh8=>I (?_:l.length=l.length) ((TP hI.1 h8 hI.2:(x.2.1,x.1,([]:List Rat)++x.2.2.2.1,([]:List Rat)++x.2.2.1,l)=qD x))))⟩<;>omega)
theorem Pt:FI.OK ⟨63,[q1X,(.sl q7e)],[Wn,(.s 16 q6Z)],λz=>(λ(x:q9y)(l:q9w)=>[0<l.length]) z.1 z.2,λb z=>(λ(x:q9y)(l:q9w)=>oA qH (bWr (b0 b) (b1 b)) (wrV x l)) z.1 z.2⟩ Pg:=mF Tryz.func63 [] (λ(x:q9y)(l:q9w) b hx hp=>qB (wr_b (Bnds.h2 hx).1 (Bnds.h2 hx).2 (hp _ q5Q))) (λ(x:q9y)(l:q9w) hx hp=>by
 have hl1:l.length<=16:=hx.2.1;have hp0:0<l.length:=hp _ (q5Q);have hll:l.length<=16:=hx.2.1
 refine⟨.h 1 6 (.mk (.gro .rat q9g))<|.h 1 10 (.mk (.gro .rat q9g))<|.pre 2 (.frz 16 true [])<|.pre 2 (.frz 22 true [])<|.loop [.s 6 q97 q9m,.ex (gboX 5 90002 [(.dt q91 q9v x.1),(.dt q91 q9v ((l.getD 0 (0,([],[]))).1)),(.dt q9e q8s (([]:List Rat)++x.2.2.1)),(.dt q9e q8s (([]:List Rat)++(((l.getD 0 (0,([],[]))).2).1)))] [] q7N q7j 16)] (λ((i,r):Nat×q9B)=>r=qt (λi=>(l.getD i zCur).2.2) i/\i<=l.length) (λ((i,r):Nat×q9B)=>l.length-i) λ((i,r):Nat×q9B)=> .cond (.h 5 1 (.ext wu)<|.h 5 2 (.ext (q1b q82 q7q))<|.h 5 8 (.ext q18)<|.h 5 9 (.mk (.im q7N q7j)) .nil)<|.pre 6 (.frz 90002 true []) .nil,kX (I6 (?_:0<l.length) (rfl:0=([]:List Rat).length) (?_:0<l.length) (rfl:0=([]:List Rat).length) (Lq:0+x.2.2.1.length=(([]:List Rat)++x.2.2.1).length) (Lq:0+(((l.getD 0 (0,([],[]))).2).1).length=(([]:List Rat)++(((l.getD 0 (0,([],[]))).2).1)).length)<|I4 (rfl:([(.dt q91 q9v x.1),(.dt q91 q9v ((l.getD 0 (0,([],[]))).1)),(.dt q9e q8s (([]:List Rat)++x.2.2.1)),(.dt q9e q8s (([]:List Rat)++(((l.getD 0 (0,([],[]))).2).1)))]:List WA)=[(.dt q91 q9v x.1),(.dt q91 q9v ((l.getD 0 (0,([],[]))).1)),(.dt q9e q8s (([]:List Rat)++x.2.2.1)),(.dt q9e q8s (([]:List Rat)++(((l.getD 0 (0,([],[]))).2).1)))]) (rfl:([]:List WA)=[]) (rfl:0=([]:q9B).length) (⟨rfl,q6A _⟩:([]:q9B)=qt (λi=>(l.getD i zCur).2.2) 0/\0<=l.length) λ(i:Nat)(r:q9B)(hb1:HB [.s 6 q97 q9m,.ex (gboX 5 90002 [(.dt q91 q9v x.1),(.dt q91 q9v ((l.getD 0 (0,([],[]))).1)),(.dt q9e q8s (([]:List Rat)++x.2.2.1)),(.dt q9e q8s (([]:List Rat)++(((l.getD 0 (0,([],[]))).2).1)))] [] q7N q7j 16)] (i,r))(hI:r=qt (λi=>(l.getD i zCur).2.2) i/\i<=l.length)=>have hv4:=(show i<=16 from hb1.1);have hv5:=(show r.length<=16 from hb1.2.1.1);have hIi:=hI.2;have hrl:=(show r.length=i by rw[hI.1,ja]);Sp (i<l.length) (λh2=>I6 (?_:i<l.length) (?_:r.length=r.length) (qy:Bnd q97 q9m (i+1)) (rfl:([(.dt q91 q9v x.1),(.dt q91 q9v ((l.getD 0 (0,([],[]))).1)),(.dt q9e q8s (([]:List Rat)++x.2.2.1)),(.dt q9e q8s (([]:List Rat)++(((l.getD 0 (0,([],[]))).2).1)))]:List WA)=[(.dt q91 q9v x.1),(.dt q91 q9v ((l.getD 0 (0,([],[]))).1)),(.dt q9e q8s (([]:List Rat)++x.2.2.1)),(.dt q9e q8s (([]:List Rat)++(((l.getD 0 (0,([],[]))).2).1)))]) (rfl:([]:List WA)=[]) (Lq:r.length+[([]:q9C)++(((l.getD i (0,([],[]))).2).2)].length=(r++[([]:q9C)++(((l.getD i (0,([],[]))).2).2)]).length)<|I (Lq:r.length+[([]:q9C)++(((l.getD i (0,([],[]))).2).2)].length<=16) (q6K (⟨wr_s hI.1,by omega⟩:r++[([]:q9C)++(((l.getD i (0,([],[]))).2).2)]=qt (λi=>(l.getD i zCur).2.2) (i+1)/\(i+1)<=l.length) (?_:l.length-(i+1)<l.length-i))) λh3=>I (?_:r.length=r.length) ((wr_e hI.1 (by omega):(x.1,(l.getD 0 (0,([],[]))).1,([]:List Rat)++x.2.2.1,([]:List Rat)++(((l.getD 0 (0,([],[]))).2).1),r)=wrV x l)))⟩<;>omega)
theorem XS:FI.OK ⟨223,[q1U,q8f],[Tz,q7Q],λ_=>[],λb z=>(λ(m:q9E)(p:q9H)=>oA qV (bV3 (3*((b0 b).mx+(b1 b).mx)+2)) (IG m p)) z.1 z.2⟩ Pg:=mF Tryz.func223 [(155,.cI Ol)] (λ(m:q9E)(p:q9H) b hx hp=>Bb (q3d (Bnds.h2 hx).1 (Bnds.h2 hx).2)) (λ(m:q9E)(p:q9H) hx hp=>by
 refine⟨.nil,kX ((rfl:(dotQ m.1.1 p,dotQ m.1.2.1 p,dotQ m.1.2.2 p)=IG m p))⟩)
theorem q2P:FI.OK ⟨179,[q1U,q8f],[Tz,q7Q],λ_=>[],λb z=>(λ(m:q9E)(p:q9H)=>oA qV (bV3 (4*(b0 b).mx+3*(b1 b).mx+3)) (appV m p)) z.1 z.2⟩ Pg:=mF Tryz.func179 [(222,.cI Ya),(223,.cI XS)] (λ(m:q9E)(p:q9H) b hx hp=>Bb (q3m (Bnds.h2 hx).1 (Bnds.h2 hx).2)) (λ(m:q9E)(p:q9H) hx hp=>by
 refine⟨.nil,kX ((rfl:addV (IG m p) m.2=appV m p))⟩)
theorem XP:FI.OK ⟨119,[q7N,q1U],[q7o,Tz],λ_=>[],λb z=>(λ(l:q9C)(m:q9E)=>oO (.sl (.pr qV .rat)) (.s (b0 b).len (j5 (4*(b1 b).mx+3*(b0 b).mx+3))) (qt (λi=>movP m (l.getD i jt)) l.length)) z.1 z.2⟩ Pg:=mF Tryz.func119 [(179,.cI q2P)] (λ(l:q9C)(m:q9E) b hx hp=>q8 (Rf (Bnds.h2 hx).1 (Bnds.h2 hx).2) rfl) (λ(l:q9C)(m:q9E) hx hp=>by
 have hl0:l.length<=16:=hx.1.1;have hll:l.length<=16:=hx.1.1
 refine⟨.loop [.s 6 q97 q9m,.g 5 90001 q82 q7r 16] (λ((i,r):Nat×q9C)=>r=qt (λi=>movP m (l.getD i jt)) i/\i<=l.length) (λ((i,r):Nat×q9C)=>l.length-i) λ((i,r):Nat×q9C)=> .cond (.h 5 14 (.mk (.im q82 q7r)) .nil)<|.pre 6 (.frz 90001 true [5]) .nil,kX (I2 (rfl:0=([]:q9C).length) (⟨rfl,q6A _⟩:([]:q9C)=qt (λi=>movP m (l.getD i jt)) 0/\0<=l.length) λ(i:Nat)(r:q9C)(hb1:HB [.s 6 q97 q9m,.g 5 90001 q82 q7r 16] (i,r))(hI:r=qt (λi=>movP m (l.getD i jt)) i/\i<=l.length)=>have hv4:=(show i<=16 from hb1.1);have hv5:=(show r.length<=16 from hb1.2.1);have hIi:=hI.2;have hrl:=(show r.length=i by rw[hI.1,ja]);Sp (i<l.length) (λh2=>Id2 (?_:i<l.length)<|I4 (?_:r.length=r.length) (qy:Bnd q97 q9m (i+1)) (Lq:r.length+[(appV m ((l.getD i q9J).1),(l.getD i q9J).2)].length=(r++[(appV m ((l.getD i q9J).1),(l.getD i q9J).2)]).length) (Lq:r.length+[(appV m ((l.getD i q9J).1),(l.getD i q9J).2)].length<=16) (q6K (⟨ME hI.1,by omega⟩:r++[(appV m ((l.getD i q9J).1),(l.getD i q9J).2)]=qt (λi=>movP m (l.getD i jt)) (i+1)/\(i+1)<=l.length) (?_:l.length-(i+1)<l.length-i))) λh3=>I (?_:r.length=r.length) ((by rw[hI.1,show i=l.length by omega]:r=qt (λi=>movP m (l.getD i jt)) l.length)))⟩<;>omega)
theorem XO:FI.OK ⟨65,[q7e,q1U],[(.p q9v (.p q8t q7o)),Tz],λ_=>[],λb z=>(λ(c:q9A)(m:q9E)=>oA (.pr q91 (.pr q9e (.sl (.pr qV .rat)))) (.p (b0 b).l (.p (b0 b).r.l (.s (b0 b).r.r.len (j5 (4*(b1 b).mx+3*(b0 b).r.r.mx+3))))) (movC c m)) z.1 z.2⟩ Pg:=mF Tryz.func65 [(119,.cI XP)] (λ(c:q9A)(m:q9E) b hx hp=>qB (Re (Bnds.h2 hx).1 (Bnds.h2 hx).2)) (λ(c:q9A)(m:q9E) hx hp=>by
 refine⟨.h 1 2 (.mk (.gro .rat q9i))<|.pre 999999 (.frz 10 true [4]) .nil,kX (I2 (rfl:0=([]:List Rat).length) (Lq:0+c.2.1.length=(([]:List Rat)++c.2.1).length) ((rfl:(c.1,([]:List Rat)++c.2.1,qt (λi=>movP m (c.2.2.getD i jt)) c.2.2.length)=movC c m)))⟩)
theorem O4:FI.OK ⟨27,[q1X],[X5],λz=>(λ(x:q9y)=>[0<x.2.2.2.2.length]) z,λb z=>(λ(x:q9y)=>oA qH (bMiV (b0 b)) (mirV x)) z⟩ Pg:=mF Tryz.func27 [(44,.cI O0),(62,.cI Mu),(63,.cI Pt)] (λ(x:q9y) b hx hp=>qB (UB (Bnds.h1 hx) (hp _ q5Q))) (λ(x:q9y) hx hp=>by
 have hp0:0<x.2.2.2.2.length:=hp _ (q5Q);have hxl:x.2.2.2.2.length<=16:=hx.2.2.2.2.1
 refine⟨.loop [.s 4 q97 q9m,.g 3 90001 q7e q6Z 16] (λ((i,l):Nat×q9w)=>l=qt (λi=>jk (rwC x i)) i/\i<=x.2.2.2.2.length) (λ((i,l):Nat×q9w)=>x.2.2.2.2.length-i) λ((i,l):Nat×q9w)=> .cond (.h 5 5 (.mk (.im q7e q6Z)) .nil)<|.pre 6 (.frz 90001 true [3]) .nil,kX (I2 (rfl:0=([]:q9w).length) (⟨rfl,q6A _⟩:([]:q9w)=qt (λi=>jk (rwC x i)) 0/\0<=x.2.2.2.2.length) λ(i:Nat)(l:q9w)(hb1:HB [.s 4 q97 q9m,.g 3 90001 q7e q6Z 16] (i,l))(hI:l=qt (λi=>jk (rwC x i)) i/\i<=x.2.2.2.2.length)=>have hv4:=(show i<=16 from hb1.1);have hv5:=(show l.length<=16 from hb1.2.1);have hIi:=hI.2;have hll:=(show l.length=i by rw[hI.1,ja]);Sp (i<x.2.2.2.2.length) (λh2=>I5 (?_:i<x.2.2.2.2.length) (?_:l.length=l.length) (qy:Bnd q97 q9m (i+1)) (Lq:l.length+[jk (rwC x i)].length=(l++[jk (rwC x i)]).length) (Lq:l.length+[jk (rwC x i)].length<=16) (q6K (⟨mv_s (f:=λi=>jk (rwC x i)) hI.1,by omega⟩:l++[jk (rwC x i)]=qt (λi=>jk (rwC x i)) (i+1)/\(i+1)<=x.2.2.2.2.length) (?_:x.2.2.2.2.length-(i+1)<x.2.2.2.2.length-i))) λh3=>I2 (?_:l.length=l.length) (?_:0<l.length) ((by rw[hI.1,show i=x.2.2.2.2.length by omega];rfl:wrV x l=mirV x)))⟩<;>omega)
theorem XM:FI.OK ⟨25,[q1X],[X5],λz=>(λ(x:q9y)=>[RecP x]) z,λb z=>(λ(x:q9y)=>oA qH (bSwp (bMiV (bSwp (b0 b)))) (mirU x)) z⟩ Pg:=mF Tryz.func25 [(24,.cI Jr),(27,.cI O4)] (λ(x:q9y) b hx hp=>qB (IF (UB (IF (Bnds.h1 hx)) (hp _ q5Q:RecP x).swap.r))) (λ(x:q9y) hx hp=>by
 have hp0:RecP x:=hp _ (q5Q)
 refine⟨.nil,kX (I3 (hp0:RecP x) (hp0.swap.r:0<(qD x).2.2.2.2.length) (hp0.swap.mir:RecP (mirV (qD x))) ((rfl:qD (mirV (qD x))=mirU x)))⟩)
theorem XN:FI.OK ⟨29,[q1X,q1U],[X5,Tz],λz=>(λ(x:q9y)(m:q9E)=>[0<x.2.2.2.2.length]) z.1 z.2,λb z=>(λ(x:q9y)(m:q9E)=>oA qH (bMvV (b0 b) (b1 b)) (movV x m)) z.1 z.2⟩ Pg:=mF Tryz.func29 [(62,.cI Mu),(63,.cI Pt),(65,.cI XO)] (λ(x:q9y)(m:q9E) b hx hp=>qB (q4F (Bnds.h2 hx).1 (Bnds.h2 hx).2 (hp _ q5Q))) (λ(x:q9y)(m:q9E) hx hp=>by
 have hp0:0<x.2.2.2.2.length:=hp _ (q5Q);have hxl:x.2.2.2.2.length<=16:=hx.1.2.2.2.2.1
 refine⟨.loop [.s 6 q97 q9m,.g 5 90001 q7e q6Z 16] (λ((i,l):Nat×q9w)=>l=qt (λi=>movC (rwC x i) m) i/\i<=x.2.2.2.2.length) (λ((i,l):Nat×q9w)=>x.2.2.2.2.length-i) λ((i,l):Nat×q9w)=> .cond (.h 5 6 (.mk (.im q7e q6Z)) .nil)<|.pre 6 (.frz 90001 true [5]) .nil,kX (I2 (rfl:0=([]:q9w).length) (⟨rfl,q6A _⟩:([]:q9w)=qt (λi=>movC (rwC x i) m) 0/\0<=x.2.2.2.2.length) λ(i:Nat)(l:q9w)(hb1:HB [.s 6 q97 q9m,.g 5 90001 q7e q6Z 16] (i,l))(hI:l=qt (λi=>movC (rwC x i) m) i/\i<=x.2.2.2.2.length)=>have hv4:=(show i<=16 from hb1.1);have hv5:=(show l.length<=16 from hb1.2.1);have hIi:=hI.2;have hll:=(show l.length=i by rw[hI.1,ja]);Sp (i<x.2.2.2.2.length) (λh2=>I5 (?_:i<x.2.2.2.2.length) (?_:l.length=l.length) (qy:Bnd q97 q9m (i+1)) (Lq:l.length+[movC (rwC x i) m].length=(l++[movC (rwC x i) m]).length) (Lq:l.length+[movC (rwC x i) m].length<=16) (q6K (⟨mv_s (f:=λi=>movC (rwC x i) m) hI.1,by omega⟩:l++[movC (rwC x i) m]=qt (λi=>movC (rwC x i) m) (i+1)/\(i+1)<=x.2.2.2.2.length) (?_:x.2.2.2.2.length-(i+1)<x.2.2.2.2.length-i))) λh3=>I2 (?_:l.length=l.length) (?_:0<l.length) ((by rw[hI.1,show i=x.2.2.2.2.length by omega];rfl:wrV x l=movV x m)))⟩<;>omega)
theorem XJ:FI.OK ⟨66,[q1X,.rat],[X5,q9p],λz=>(λ(x:q9y)(t:Rat)=>[InsS x t]) z.1 z.2,λb z=>(λ(x:q9y)(t:Rat)=> .tup [.agg [.dt qH (bInV (b0 b)) (insV x t)],.one (.dt q91 q9v 0)]) z.1 z.2⟩ Pg:=mF Tryz.func66 [(62,.cI Mu),(63,.cI Pt),(120,.cI q2M)] (λ(x:q9y)(t:Rat) b hx hp=>q9 (qB (Ur (Bnds.h2 hx).1 (hp _ q5Q))) (q9 one0 qr)) (λ(x:q9y)(t:Rat) hx hp=>by
 have hp0:InsS x t:=hp _ (q5Q);have hxl:x.2.2.2.2.length<=16:=hx.1.2.2.2.2.1
 refine⟨.loop [.s 7 q97 q9m,.g 6 90001 q7e q6Z 16] (λ((i,l):Nat×q9w)=>l=qt (λi=>insC (rwC x i) t) i/\i<=x.2.2.2.2.length) (λ((i,l):Nat×q9w)=>x.2.2.2.2.length-i) λ((i,l):Nat×q9w)=> .cond (.cond (.dead)<|.h 8 2 (.mk (.im q7e q6Z)) .nil)<|.pre 9 (.frz 90001 true [6]) .nil,kX (have hr0:=hp0.1;I2 (rfl:0=([]:q9w).length) (⟨rfl,q6A _⟩:([]:q9w)=qt (λi=>insC (rwC x i) t) 0/\0<=x.2.2.2.2.length) λ(i:Nat)(l:q9w)(hb1:HB [.s 7 q97 q9m,.g 6 90001 q7e q6Z 16] (i,l))(hI:l=qt (λi=>insC (rwC x i) t) i/\i<=x.2.2.2.2.length)=>have hv6:=(show i<=16 from hb1.1);have hv7:=(show l.length<=16 from hb1.2.1);have hIi:=hI.2;have hll:=(show l.length=i by rw[hI.1,ja]);Sp (i<x.2.2.2.2.length) (λh2=>I2 (?_:i<x.2.2.2.2.length) (hp0.2 i (by omega):InsO (rwC x i) t)<|Sp ((0:Int)≠0) (λh3=>(h3 rfl:False)) λh4=>I4 (?_:l.length=l.length) (qy:Bnd q97 q9m (i+1)) (Lq:l.length+[insC (rwC x i) t].length=(l++[insC (rwC x i) t]).length) (Lq:l.length+[insC (rwC x i) t].length<=16) (q6K (⟨mv_s (f:=λi=>insC (rwC x i) t) hI.1,by omega⟩:l++[insC (rwC x i) t]=qt (λi=>insC (rwC x i) t) (i+1)/\(i+1)<=x.2.2.2.2.length) (?_:x.2.2.2.2.length-(i+1)<x.2.2.2.2.length-i))) λh5=>I2 (?_:l.length=l.length) (?_:0<l.length) (q6K (by rw[hI.1,show i=x.2.2.2.2.length by omega];rfl:wrV x l=insV x t) (rfl:0=(0:Int))))⟩<;>omega)
theorem XI:FI.OK ⟨30,[q1X,.rat],[X5,q9p],λz=>(λ(x:q9y)(t:Rat)=>[RecP x,InsS (qD x) t]) z.1 z.2,λb z=>(λ(x:q9y)(t:Rat)=> .tup [.agg [.dt qH (bSwp (bInV (bSwp (b0 b)))) (insU x t)],.one (.dt q91 q9v 0)]) z.1 z.2⟩ Pg:=mF Tryz.func30 [(24,.cI Jr),(66,.cI XJ)] (λ(x:q9y)(t:Rat) b hx hp=>q9 (qB (IF (Ur (IF (Bnds.h2 hx).1) (hp _ (q5P _ q5Q))))) (q9 one0 qr)) (λ(x:q9y)(t:Rat) hx hp=>by
 have hp0:RecP x:=hp _ (q5Q);have hp1:InsS (qD x) t:=hp _ (q5P _ (q5Q))
 refine⟨.cond (.dead) .nil,kX (I2 (hp0:RecP x) (hp1:InsS (qD x) t)<|Sp ((0:Int)≠0) (λh1=>(h1 rfl:False)) λh2=>I (hp0.swap.ins:RecP (insV (qD x) t)) (q6K (rfl:qD (insV (qD x) t)=insU x t) (rfl:0=(0:Int))))⟩)
section
section
variable {P:Program}
def rigT(t:Ty)(b:Bd)(xs:List t.den):Nat->Nat->List WA
 |0,_=>[]
 |n+1,j=> .dt t b (gt t xs j)::rigT t b xs n (j+1)
theorem Mt{t:Ty}{b:Bd}{xs:List t.den}: ∀{n j:Nat},n+j=xs.length->WAs.exp (rigT t b xs n j)=je t (xs.drop j)
 |0,j,h=>by rw[q5u (by omega)];rfl
 |n+1,j,h=>by
  have hj:j<xs.length:=by omega
  have e:xs.drop j=gt t xs j::xs.drop (j+1):=by
   unfold gt;rw[q5y,q5C hj];exact List.drop_eq_getElem_cons hj
  have ih:=Mt (t:=t) (b:=b) (xs:=xs) (n:=n) (j:=j+1) (by omega);rw[e];show WAs.exp ([.dt t b (gt t xs j)]++rigT t b xs n (j+1))=je t ([gt t xs j]++xs.drop (j+1));rw[WAs.exp_app,Cu,ih,zi];simp[je]
theorem O3{t:Ty}{b:Bd}{xs:List t.den}(h: ∀x∈xs,Bnd t b x): ∀{n j:Nat},n+j=xs.length->WAs.ok (rigT t b xs n j)
 |0,j,_=>λu hu=>by simp[rigT]at hu
 |n+1,j,e=>by
  show WAs.ok ([.dt t b (gt t xs j)]++rigT t b xs n (j+1));exact WAs.ok_app.2 ⟨v9 (Bnd.gt h (by omega)),O3 h (by omega)⟩
theorem Vl{a a' u u':List Atom}(off:Nat)(h:AImps a a')(k:AImps u u'):AImps (spl a off u) (spl a' off u'):=by
 have e:=Ca k;unfold spl;rw[e];exact zX (L3 off h) (zX k (L2 _ h))
def gStA(P:Program)(t:Ty)(b:Bd)(n:Nat):Op->Option Tmp->(Nat->Option WB)->List WV->HR
 | .store ty _ _,_,bl,[.c (.one (.el k i fo w)),.c v]=>match bl k,jl P ty with
  |some (.rig l),some (g,s)=>match CO t b n l,reify t v.cells with
   |some xs,some (b',z,[])=>bif Nat.beq fo 0&&(Nat.beq w t.w&&(Nat.beq s t.w&&(Nat.beq (WAs.wd v.cells) s&&b'.le b)))then .ok [i<n] wX [k] [(k,some (.rig (rigT t b (xs.set i z) n 0)))]else .bad
   |_,_=> .bad
  |_,_=> .bad
 |_,_,_,_=> .bad
def q1d(t:Ty)(b:Bd)(n:Nat):Ext P:=⟨gStA P t b n,by
 intro op dst ty bl vs hl;unfold gStA;split
 .rename_i ty' x y k i fo w v
  split
  .rename_i l g s hbl hs
   split
   .rename_i xs b' z hx hr
    cases h0:Nat.beq fo 0&&(Nat.beq w t.w&&(Nat.beq s t.w&&(Nat.beq (WAs.wd v.cells) s&&b'.le b)))with
    |false=>exact trivial
    |true=>
     simp only[q5m]at h0;obtain⟨q1,q2,q3,q4,q5⟩:=h0;have q1:=q68 q1;have q2:=q68 q2;have q3:=q68 q3;have q4:=q68 q4
     subst q1 q2 q3;intro hv hbo hvc kin hk hkb;rw[zD hk hkb hbl];have hin:i<n:=hvc _ q5Q;obtain⟨i1,i2,i3⟩:=GF hx;have hxs:=i3 (hbo k _ hbl);have hi:i<xs.length:=by omega
     have hv':v.ok:=hv (.c v) (by simp);obtain⟨m',e1,j1,o1⟩:=vv hr;have e1':WAs.exp v.cells=m':=by rw[e1];simp[WAs.exp]
     subst e1';have hve:v.exp.cells=WAs.exp v.cells:=WC.exp_cells hv';have hvl:v.exp.cells.length=t.w:=by rw[hve,WAs.exp_len,q4]
     have hz:=Bnd.mono q5 (o1 (WC.ok_cells hv')).1
     have hset: ∀u∈xs.set i z,Bnd t b u:=λu hu=>by
      rcases Ib hu with hu|rfl
      .exact hxs u hu
      .exact hz
     have hlen:(xs.set i z).length=xs.length:=q6S;have hle:(i+1)*t.w<=xs.length*t.w:=q6r _ hi;rw[q6y]at hle;have hll:=Ca i1;rw[zH]at hll;have hop:=Hc (P:=P) (ty:=ty) (x:=x) (y:=y) (k:=k) (off:=i*t.w) (cs:=WAs.exp l) (v:=v.exp) hs hvl (by omega);refine⟨?_,Ds,vV (O3 hset (by omega))⟩;refine hop.weak (λ_ _ _ h=>h) (DF (zM ?_));rw[Mt (by omega),q5v,<-L4 t xs i z hi,hve];exact Vl _ i1 j1
   .exact trivial
  .exact trivial
 .exact trivial⟩
end
end
theorem Xf:FI.OK ⟨20,[q91],[q9v],λz=>(λ(k:Int)=>[k=(2:Int)]) z,λb z=>oO q9e q8M kA⟩ Pg:=mF Tryz.func20 [(21,.cI AC)] (λ(k:Int) b hx hp=>q8 kA_b rfl) (λ(k:Int) hx hp=>by
 have hx0:Int.natAbs k<=8:=hx;have hp0:k=(2:Int):=hp _ (q5Q)
 refine⟨.loop [.s 4 q97 q9v,.g 3 90001 .rat q9l 16] (λ((i,l):Nat×List Rat)=>l=kA.take i/\i<=6) (λ((i,l):Nat×List Rat)=>6-i) λ((i,l):Nat×List Rat)=> .cond (.h 5 6 (.mk (.im .rat q9l)) .nil)<|.pre 6 (.frz 90001 true [3]) .nil,kX (I2 (rfl:0=([]:List Rat).length) (⟨rfl,q6A _⟩:([]:List Rat)=kA.take 0/\0<=6) λ(i:Nat)(l:List Rat)(hb1:HB [.s 4 q97 q9v,.g 3 90001 .rat q9l 16] (i,l))(hI:l=kA.take i/\i<=6)=>have hv4:=(show i<=8 from hb1.1);have hv5:=(show l.length<=16 from hb1.2.1);have hIi:=hI.2;have hll:=(show l.length=i by rw[hI.1,q5L];exact q6i hI.2);Sp ((i:Int)<(2*k)+2) (λh2=>I5 (?_:k+1≠0) (?_:l.length=l.length) (qy:Bnd q97 q9v (i+1)) (Lq:l.length+[((Int.tdiv (i:Int) (k+1):Int):Rat)].length=(l++[((Int.tdiv (i:Int) (k+1):Int):Rat)]).length) (Lq:l.length+[((Int.tdiv (i:Int) (k+1):Int):Rat)].length<=16) (q6K (⟨en_s hI.1 (by omega) hp0,by omega⟩:l++[((Int.tdiv (i:Int) (k+1):Int):Rat)]=kA.take (i+1)/\(i+1)<=6) (?_:6-(i+1)<6-i))) λh3=>I (?_:l.length=l.length) ((by rw[hI.1,show i=6 by omega];rfl:l=kA)))⟩<;>omega)
theorem TG:FI.OK ⟨64,[q97],[q9r],λz=>(λ(k:Nat)=>[k<3]) z,λb z=>(λ(k:Nat)=>oA qV (bV3 2) (C7 k)) z⟩ Pg:=mF Tryz.func64 [(21,.cI AC)] (λ(k:Nat) b hx hp=>Bb (Y9 k (hp _ q5Q))) (λ(k:Nat) hx hp=>by
 have hx0:k<=2:=hx;have hp0:k<3:=hp _ (q5Q)
 refine⟨.h 2 2 (.ext q1a)<|.h 2 3 (.ext (q1d .rat q9r 3)) .nil,kX (Id2 (?_:k<3) ((rfl:(([0,0,0].set k ((1:Int):Rat)).getD 0 0,([0,0,0].set k ((1:Int):Rat)).getD 1 0,([0,0,0].set k ((1:Int):Rat)).getD 2 0)=C7 k)))⟩<;>omega)
theorem Tw:FI.OK ⟨28,[],[],λ_=>[],λb z=>oA Ax (Ee 2) idMp⟩ Pg:=mF Tryz.func28 [(64,.cI TG)] (λ b hx hp=>qB id_b) (λ hx hp=>by
 refine⟨.nil,kX (I3 (?_:0<3) (?_:1<3) (?_:2<3) ((id_e:((C7 0,C7 1,C7 2),0,0,0)=idMp)))⟩<;>omega)
abbrev q1V:FB:=⟨8,q85,q7B,[FR],[Fg],λs z=>(λ(c:(q9x)×List Int)=>[OddO c.1]) z,λtb b s z=>(λ(c:(q9x)×List Int)=>oA Gr FG (oddC s c)) z,λs z=>(λ(c:(q9x)×List Int)=>vh s c.1) z,λtb b=> .p tb.l (.n (max tb.r.nb tb.l.len))⟩
theorem q1W:q1V.OK Pg:=mkB' hmix 92 Tryz.func8 rfl rfl (by decide) [(9,.cI JK),(10,.b dnext_c),(26,.cI He),(27,.cI O4),(28,.cI Tw),(29,.cI XN),(30,.cI XI)] (λ_=>rfl) (λ_ _=>rfl) (λ_ _ _ _=>rfl) (λ(s:List Int×Nat)(c:(q9x)×List Int) tb b hs hx hp=>⟨q2d (hp _ q5Q) s,q2c hs⟩) (λ(s:List Int×Nat)(c:(q9x)×List Int) hs hx hp=>by
 have hp0:OddO c.1:=hp _ (q5Q);have hcl:c.1.length<=4:=hx.1.1
 refine⟨.h 1 2 (.mk (.gro XD R0))<|.cond (.pre 3 (.frz 11 true []) .nil)<|.h 5 3 (.ix ((qf s ((c.1.length:Nat):Int)).toNat))<|.cond (.pre 7 (.frz 11 true []) .nil)<|.cond (.h 25 4 (.ix ((qf s ((c.1.length:Nat):Int)).toNat))<|.pre 26 (.frz 11 true []) .nil)<|.cond (.h 25 4 (.ix ((qf s ((c.1.length:Nat):Int)).toNat))<|.pre 26 (.frz 11 true []) .nil)<|.cond (.h 25 4 (.ix ((qf s ((c.1.length:Nat):Int)).toNat))<|.pre 26 (.frz 11 true []) .nil)<|.cond (.pre 18 (.frz 11 true []) .nil)<|.cond (.h 25 4 (.ix ((qf s ((c.1.length:Nat):Int)).toNat))<|.pre 26 (.frz 11 true []) .nil)<|.cond (.h 23 5 (.ix ((qf s ((c.1.length:Nat):Int)).toNat))<|.h 23 7 (.mk (.im XD R0))<|.pre 24 (.frz 82 true []) .nil) (.dead),kX (Sp (c.1.length=0) (λh1=>I (?_:c.1.length=c.1.length) (q6K ((od_0 h1).1:s=vh s c.1) ((congrArg (λP=>(P,([]:List Int))) (od_0 h1).2:(c.1,[])=oddC s c)))) λh2=>I (?_:(0:Int)<((c.1.length:Nat):Int)) (have hk:=AU s (m:=((c.1.length:Nat):Int)) (by omega);I (?_:qf s ((c.1.length:Nat):Int)=(((qf s ((c.1.length:Nat):Int)).toNat:Nat):Int))<|Id2 (?_:(qf s ((c.1.length:Nat):Int)).toNat<c.1.length)<|I (((hp0.1.at (show(qf s ((c.1.length:Nat):Int)).toNat<c.1.length by omega)).P (by decide)).p:PosS ((c.1.getD ((qf s ((c.1.length:Nat):Int)).toNat) q9I).1))<|Sp (jj ((c.1.getD ((qf s ((c.1.length:Nat):Int)).toNat) q9I).1)≠0) (λh3=>I (?_:c.1.length=c.1.length) (q6K ((od_c h2 h3).1:qw s=vh s c.1) ((congrArg (λP=>(P,([]:List Int))) (od_c h2 h3).2:(c.1,[])=oddC s c)))) λh4=>have hc9:=show¬jj _≠0 from h4;I (?_:(0:Int)<6) (have hk6:=AU (qw s) (m:=6) (by omega);Sp (qf (qw s) 6=0) (λh5=>I2 ((hp0.1.at (show(qf s ((c.1.length:Nat):Int)).toNat<c.1.length by omega)).rcp.r:0<((c.1.getD ((qf s ((c.1.length:Nat):Int)).toNat) q9I).1).2.2.2.2.length) (?_:qf s ((c.1.length:Nat):Int)=(((qf s ((c.1.length:Nat):Int)).toNat:Nat):Int))<|Id2 (?_:(qf s ((c.1.length:Nat):Int)).toNat<c.1.length)<|I2 ((⟨(SurfG.P (n:=2) (SurfG.mono (n:=1) (k:=2) (hp0.1.at (show(qf s ((c.1.length:Nat):Int)).toNat<c.1.length by omega)).mir (by decide) (by decide)) (by decide)).b,hp0.2.at (show(qf s ((c.1.length:Nat):Int)).toNat<c.1.length by omega)⟩:Bnd XD R0 (mirV ((c.1.getD ((qf s ((c.1.length:Nat):Int)).toNat) q9I).1),(c.1.getD ((qf s ((c.1.length:Nat):Int)).toNat) q9I).2)):Bnd XD R0 (mirV ((c.1.getD ((qf s ((c.1.length:Nat):Int)).toNat) q9I).1),(c.1.getD ((qf s ((c.1.length:Nat):Int)).toNat) q9I).2)) (List.length_set.symm:c.1.length=(c.1.set ((qf s ((c.1.length:Nat):Int)).toNat) (mirV ((c.1.getD ((qf s ((c.1.length:Nat):Int)).toNat) q9I).1),(c.1.getD ((qf s ((c.1.length:Nat):Int)).toNat) q9I).2)).length) (q6K ((UG h2 h4 h5).1:qw (qw s)=vh s c.1) ((congrArg (λP=>(P,([]:List Int))) (UG h2 h4 h5).2:(c.1.set ((qf s ((c.1.length:Nat):Int)).toNat) (mirV ((c.1.getD ((qf s ((c.1.length:Nat):Int)).toNat) q9I).1),(c.1.getD ((qf s ((c.1.length:Nat):Int)).toNat) q9I).2),[])=oddC s c)))) λh6=>Sp (qf (qw s) 6=1) (λh7=>have hk3:=AU (qw (qw s)) (m:=3) (by omega);I3 (?_:(0:Int)<3) ((hp0.1.at (show(qf s ((c.1.length:Nat):Int)).toNat<c.1.length by omega)).rcp.r:0<((c.1.getD ((qf s ((c.1.length:Nat):Int)).toNat) q9I).1).2.2.2.2.length) (?_:qf s ((c.1.length:Nat):Int)=(((qf s ((c.1.length:Nat):Int)).toNat:Nat):Int))<|Id2 (?_:(qf s ((c.1.length:Nat):Int)).toNat<c.1.length)<|I2 ((⟨(SurfG.P (n:=2) ((hp0.1.at (show(qf s ((c.1.length:Nat):Int)).toNat<c.1.length by omega)).mov (by decide) (Vc (qw (qw s)))) (by decide)).b,hp0.2.at (show(qf s ((c.1.length:Nat):Int)).toNat<c.1.length by omega)⟩:Bnd XD R0 (movV ((c.1.getD ((qf s ((c.1.length:Nat):Int)).toNat) q9I).1) (idMp.1,idMp.2.1,idMp.2.2.1,((1:Int):Rat)/((1+(qf (qw (qw s)) 3):Int):Rat)),(c.1.getD ((qf s ((c.1.length:Nat):Int)).toNat) q9I).2)):Bnd XD R0 (movV ((c.1.getD ((qf s ((c.1.length:Nat):Int)).toNat) q9I).1) (idMp.1,idMp.2.1,idMp.2.2.1,((1:Int):Rat)/((1+(qf (qw (qw s)) 3):Int):Rat)),(c.1.getD ((qf s ((c.1.length:Nat):Int)).toNat) q9I).2)) (List.length_set.symm:c.1.length=(c.1.set ((qf s ((c.1.length:Nat):Int)).toNat) (movV ((c.1.getD ((qf s ((c.1.length:Nat):Int)).toNat) q9I).1) (idMp.1,idMp.2.1,idMp.2.2.1,((1:Int):Rat)/((1+(qf (qw (qw s)) 3):Int):Rat)),(c.1.getD ((qf s ((c.1.length:Nat):Int)).toNat) q9I).2)).length) (q6K ((UH h2 h4 h7).1:qw (qw (qw s))=vh s c.1) ((congrArg (λP=>(P,([]:List Int))) (UH h2 h4 h7).2:(c.1.set ((qf s ((c.1.length:Nat):Int)).toNat) (movV ((c.1.getD ((qf s ((c.1.length:Nat):Int)).toNat) q9I).1) (idMp.1,idMp.2.1,idMp.2.2.1,((1:Int):Rat)/((1+(qf (qw (qw s)) 3):Int):Rat)),(c.1.getD ((qf s ((c.1.length:Nat):Int)).toNat) q9I).2),[])=oddC s c)))) λh8=>Sp (qf (qw s) 6=2) (λh9=>I3 ((hp0.1.at (show(qf s ((c.1.length:Nat):Int)).toNat<c.1.length by omega)).rcp:RecP ((c.1.getD ((qf s ((c.1.length:Nat):Int)).toNat) q9I).1)) ((hp0.1.at (show(qf s ((c.1.length:Nat):Int)).toNat<c.1.length by omega)).insS (by decide) hc9:InsS (qD ((c.1.getD ((qf s ((c.1.length:Nat):Int)).toNat) q9I).1)) (((1:Int):Rat)/((2:Int):Rat))) (?_:qf s ((c.1.length:Nat):Int)=(((qf s ((c.1.length:Nat):Int)).toNat:Nat):Int))<|Id2 (?_:(qf s ((c.1.length:Nat):Int)).toNat<c.1.length)<|I2 ((⟨(SurfG.P (n:=2) (((hp0.1.at (show(qf s ((c.1.length:Nat):Int)).toNat<c.1.length by omega)).ins (by decide) hc9).1) (by decide)).b,hp0.2.at (show(qf s ((c.1.length:Nat):Int)).toNat<c.1.length by omega)⟩:Bnd XD R0 (insU ((c.1.getD ((qf s ((c.1.length:Nat):Int)).toNat) q9I).1) (((1:Int):Rat)/((2:Int):Rat)),(c.1.getD ((qf s ((c.1.length:Nat):Int)).toNat) q9I).2)):Bnd XD R0 (insU ((c.1.getD ((qf s ((c.1.length:Nat):Int)).toNat) q9I).1) (((1:Int):Rat)/((2:Int):Rat)),(c.1.getD ((qf s ((c.1.length:Nat):Int)).toNat) q9I).2)) (List.length_set.symm:c.1.length=(c.1.set ((qf s ((c.1.length:Nat):Int)).toNat) (insU ((c.1.getD ((qf s ((c.1.length:Nat):Int)).toNat) q9I).1) (((1:Int):Rat)/((2:Int):Rat)),(c.1.getD ((qf s ((c.1.length:Nat):Int)).toNat) q9I).2)).length) (q6K ((UI h2 h4 h9).1:qw (qw s)=vh s c.1) ((congrArg (λP=>(P,([]:List Int))) (UI h2 h4 h9).2:(c.1.set ((qf s ((c.1.length:Nat):Int)).toNat) (insU ((c.1.getD ((qf s ((c.1.length:Nat):Int)).toNat) q9I).1) (((1:Int):Rat)/((2:Int):Rat)),(c.1.getD ((qf s ((c.1.length:Nat):Int)).toNat) q9I).2),[])=oddC s c)))) λh10=>Sp (qf (qw s) 6=3) (λh11=>I2 (?_:c.1.length=c.1.length) (?_:1<=c.1.length) (q6K ((UJ h2 h4 h11).1:qw (qw s)=vh s c.1) ((congrArg (λP=>(P,([]:List Int))) (UJ h2 h4 h11).2:(c.1.take 1,[])=oddC s c)))) λh12=>Sp (qf (qw s) 6=4) (λh13=>I2 (((hp0.1.at (show(qf s ((c.1.length:Nat):Int)).toNat<c.1.length by omega)).P (by decide)).ku:1<=(((((c.1.getD ((qf s ((c.1.length:Nat):Int)).toNat) q9I).1).2).2).1).length) (?_:qf s ((c.1.length:Nat):Int)=(((qf s ((c.1.length:Nat):Int)).toNat:Nat):Int))<|Id2 (?_:(qf s ((c.1.length:Nat):Int)).toNat<c.1.length)<|I (List.length_set.symm:c.1.length=(c.1.set ((qf s ((c.1.length:Nat):Int)).toNat) ((((c.1.getD ((qf s ((c.1.length:Nat):Int)).toNat) q9I).1).1,(((c.1.getD ((qf s ((c.1.length:Nat):Int)).toNat) q9I).1).2).1,(((((c.1.getD ((qf s ((c.1.length:Nat):Int)).toNat) q9I).1).2).2).1).drop 1,((((c.1.getD ((qf s ((c.1.length:Nat):Int)).toNat) q9I).1).2).2).2),(c.1.getD ((qf s ((c.1.length:Nat):Int)).toNat) q9I).2)).length) (q6K ((UK h2 h4 h13).1:qw (qw s)=vh s c.1) ((congrArg (λP=>(P,([]:List Int))) (UK h2 h4 h13).2:(c.1.set ((qf s ((c.1.length:Nat):Int)).toNat) ((((c.1.getD ((qf s ((c.1.length:Nat):Int)).toNat) q9I).1).1,(((c.1.getD ((qf s ((c.1.length:Nat):Int)).toNat) q9I).1).2).1,(((((c.1.getD ((qf s ((c.1.length:Nat):Int)).toNat) q9I).1).2).2).1).drop 1,((((c.1.getD ((qf s ((c.1.length:Nat):Int)).toNat) q9I).1).2).2).2),(c.1.getD ((qf s ((c.1.length:Nat):Int)).toNat) q9I).2),[])=oddC s c)))) λh14=>Sp (qf (qw s) 6=5) (λh15=>I (?_:qf s ((c.1.length:Nat):Int)=(((qf s ((c.1.length:Nat):Int)).toNat:Nat):Int))<|Id2 (?_:(qf s ((c.1.length:Nat):Int)).toNat<c.1.length)<|I2 (?_:c.1.length=c.1.length) (Lq:c.1.length+[c.1.getD ((qf s ((c.1.length:Nat):Int)).toNat) q9I].length=(c.1++[c.1.getD ((qf s ((c.1.length:Nat):Int)).toNat) q9I]).length) (q6K ((UL h2 h4 h15).1:qw (qw s)=vh s c.1) ((congrArg (λP=>(P,([]:List Int))) (UL h2 h4 h15).2:(c.1++[c.1.getD ((qf s ((c.1.length:Nat):Int)).toNat) q9I],[])=oddC s c)))) λh16=>(?_:False))))⟩<;>omega)
noncomputable abbrev lodd_c:CtrB Pg:=FB.c q1W
abbrev q1Y:FB:=⟨7,q85,q7B,[],[],λs z=>[],λtb b s z=>oA Gr FG (pilC s),λs z=>pilT s,λtb b=> .p tb.l (.n (max tb.r.nb tb.l.len))⟩
theorem q1Z:q1Y.OK Pg:=mkB' hmix 96 Tryz.func7 rfl rfl (by decide) [(9,.cI JK),(10,.b dnext_c),(15,.cI Ql),(20,.cI Xf),(21,.cI AC),(22,.cI St),(23,.b dbool_c),(24,.cI Jr),(25,.cI XM)] (λ_=>rfl) (λ_ _=>rfl) (λ_ _ _ _=>rfl) (λ(s:List Int×Nat)  tb b hs hx hp=>⟨q2G s,q2D hs⟩) (λ(s:List Int×Nat)  hs hx hp=>by
 refine⟨.loop [.s 7 q97 q9s,.ex (gboX 3 90001 [(.kn .i64 2),(.kn .i64 2),(.dt q9e q8M kA),(.dt q9e q8M kA)] [] q7N q7F 3),.ex (gboX 4 90002 [(.kn .i64 2),(.kn .i64 2),(.dt q9e q8M kA),(.dt q9e q8M kA)] [] q7N q7F 3)] (λ((i,A,B):Nat×(q9B)×q9B)=>A=AF (pilH s) (pilW s) i/\B=AF (-pilH s) (pilW s) i/\i<=3) (λ((i,A,B):Nat×(q9B)×q9B)=>3-i) λ((i,A,B):Nat×(q9B)×q9B)=> .cond (.loop [.s 10 q97 q9s,.g 8 90003 q82 q7M 3,.g 9 90004 q82 q7M 3] (λ((j,u,v):Nat×(q9C)×q9C)=>u=qt (pilP (pilH s) (pilW s) i) j/\v=qt (pilP (-pilH s) (pilW s) i) j/\j<=3) (λ((j,u,v):Nat×(q9C)×q9C)=>3-j) λ((j,u,v):Nat×(q9C)×q9C)=> .cond (.cond (.cond (.h 19 2 (.mk (.im q82 q7M))<|.h 19 6 (.mk (.im q82 q7M)) .nil)<|.h 19 2 (.mk (.im q82 q7M))<|.h 19 6 (.mk (.im q82 q7M)) .nil)<|.h 19 2 (.mk (.im q82 q7M))<|.h 19 6 (.mk (.im q82 q7M)) .nil)<|.pre 20 (.frz 90003 true [8])<|.pre 20 (.frz 90004 true [9])<|.h 20 1 (.ext wu)<|.h 20 3 (.mk (.im q7N q7F))<|.h 20 6 (.ext wu)<|.h 20 8 (.mk (.im q7N q7F)) .nil)<|.pre 21 (.frz 90001 true [])<|.pre 21 (.frz 90002 true [])<|.cond (.pre 1024003 (.ex (rwS 92 q1X X5 (pilD s)))<|.h 24 4 (.mk (.im XD R0)) .nil)<|.pre 1024003 (.ex (rwS 92 q1X X5 (pilD s)))<|.h 24 4 (.mk (.im XD R0)) .nil,kX (Id4 (?_:2=(2:Int))<|I6 (?_:(0:Int)<4) (?_:(0:Int)<2) (rfl:([(.kn .i64 2),(.kn .i64 2),(.dt q9e q8M kA),(.dt q9e q8M kA)]:List WA)=[(.kn .i64 2),(.kn .i64 2),(.dt q9e q8M kA),(.dt q9e q8M kA)]) (rfl:([]:List WA)=[]) (rfl:0=([]:q9B).length) (rfl:([(.kn .i64 2),(.kn .i64 2),(.dt q9e q8M kA),(.dt q9e q8M kA)]:List WA)=[(.kn .i64 2),(.kn .i64 2),(.dt q9e q8M kA),(.dt q9e q8M kA)])<|I3 (rfl:([]:List WA)=[]) (rfl:0=([]:q9B).length) (⟨rfl,rfl,q6A _⟩:([]:q9B)=AF (pilH s) (pilW s) 0/\([]:q9B)=AF (-pilH s) (pilW s) 0/\0<=3) λ(i:Nat)(A:q9B)(B:q9B)(hb1:HB [.s 7 q97 q9s,.ex (gboX 3 90001 [(.kn .i64 2),(.kn .i64 2),(.dt q9e q8M kA),(.dt q9e q8M kA)] [] q7N q7F 3),.ex (gboX 4 90002 [(.kn .i64 2),(.kn .i64 2),(.dt q9e q8M kA),(.dt q9e q8M kA)] [] q7N q7F 3)] (i,A,B))(hI:A=AF (pilH s) (pilW s) i/\B=AF (-pilH s) (pilW s) i/\i<=3)=>have hv16:=(show i<=3 from hb1.1);have hv17:=(show A.length<=3 from hb1.2.1.1.1);have hv18:=(show B.length<=3 from hb1.2.2.1.1);have hIi:=hI.2.2;have hA:=(show A.length=i by rw[hI.1,ja]);have hB:=(show B.length=i by rw[hI.2.1,ja]);Sp (i<3) (λh2=>Id2 (rfl:0=([]:q9C).length)<|I (⟨rfl,rfl,q6A _⟩:([]:q9C)=qt (pilP (pilH s) (pilW s) i) 0/\([]:q9C)=qt (pilP (-pilH s) (pilW s) i) 0/\0<=3) λ(j:Nat)(u:q9C)(v:q9C)(hb3:HB [.s 10 q97 q9s,.g 8 90003 q82 q7M 3,.g 9 90004 q82 q7M 3] (j,u,v))(hJ:u=qt (pilP (pilH s) (pilW s) i) j/\v=qt (pilP (-pilH s) (pilW s) i) j/\j<=3)=>have hv10:=(show j<=3 from hb3.1);have hv11:=(show u.length<=3 from hb3.2.1.1);have hv12:=(show v.length<=3 from hb3.2.2.1);have hJj:=hJ.2.2;have hu:=(show u.length=j by rw[hJ.1,ja]);have hv:=(show v.length=j by rw[hJ.2.1,ja]);Sp (j<3) (λh4=>Sp (i=1) (λh5=>Sp (j=1) (λh6=>I6 (?_:u.length=u.length) (?_:v.length=v.length) (qy:Bnd q97 q9s (j+1)) (Lq:u.length+[((((((2*i:Nat):Int):Int):Rat),((((2*j:Nat):Int):Int):Rat),((1+(qf s 4):Int):Rat)/((2:Int):Rat)),((1+(qf (qw s) 2):Int):Rat))].length=(u++[((((((2*i:Nat):Int):Int):Rat),((((2*j:Nat):Int):Int):Rat),((1+(qf s 4):Int):Rat)/((2:Int):Rat)),((1+(qf (qw s) 2):Int):Rat))]).length) (Lq:u.length+[((((((2*i:Nat):Int):Int):Rat),((((2*j:Nat):Int):Int):Rat),((1+(qf s 4):Int):Rat)/((2:Int):Rat)),((1+(qf (qw s) 2):Int):Rat))].length<=3) (Lq:v.length+[((((((2*i:Nat):Int):Int):Rat),((((2*j:Nat):Int):Int):Rat),-(((1+(qf s 4):Int):Rat)/((2:Int):Rat))),((1+(qf (qw s) 2):Int):Rat))].length=(v++[((((((2*i:Nat):Int):Int):Rat),((((2*j:Nat):Int):Int):Rat),-(((1+(qf s 4):Int):Rat)/((2:Int):Rat))),((1+(qf (qw s) 2):Int):Rat))]).length)<|I (Lq:v.length+[((((((2*i:Nat):Int):Int):Rat),((((2*j:Nat):Int):Int):Rat),-(((1+(qf s 4):Int):Rat)/((2:Int):Rat))),((1+(qf (qw s) 2):Int):Rat))].length<=3) (q6K (⟨pi_1 hJ.1 h5 h6,pi_1 hJ.2.1 h5 h6,by omega⟩:u++[((((((2*i:Nat):Int):Int):Rat),((((2*j:Nat):Int):Int):Rat),((1+(qf s 4):Int):Rat)/((2:Int):Rat)),((1+(qf (qw s) 2):Int):Rat))]=qt (pilP (pilH s) (pilW s) i) (j+1)/\v++[((((((2*i:Nat):Int):Int):Rat),((((2*j:Nat):Int):Int):Rat),-(((1+(qf s 4):Int):Rat)/((2:Int):Rat))),((1+(qf (qw s) 2):Int):Rat))]=qt (pilP (-pilH s) (pilW s) i) (j+1)/\(j+1)<=3) (?_:3-(j+1)<3-j))) λh7=>I6 (?_:u.length=u.length) (?_:v.length=v.length) (qy:Bnd q97 q9s (j+1)) (Lq:u.length+[((((((2*i:Nat):Int):Int):Rat),((((2*j:Nat):Int):Int):Rat),((0:Int):Rat)),((1:Int):Rat))].length=(u++[((((((2*i:Nat):Int):Int):Rat),((((2*j:Nat):Int):Int):Rat),((0:Int):Rat)),((1:Int):Rat))]).length) (Lq:u.length+[((((((2*i:Nat):Int):Int):Rat),((((2*j:Nat):Int):Int):Rat),((0:Int):Rat)),((1:Int):Rat))].length<=3) (Lq:v.length+[((((((2*i:Nat):Int):Int):Rat),((((2*j:Nat):Int):Int):Rat),((0:Int):Rat)),((1:Int):Rat))].length=(v++[((((((2*i:Nat):Int):Int):Rat),((((2*j:Nat):Int):Int):Rat),((0:Int):Rat)),((1:Int):Rat))]).length)<|I (Lq:v.length+[((((((2*i:Nat):Int):Int):Rat),((((2*j:Nat):Int):Int):Rat),((0:Int):Rat)),((1:Int):Rat))].length<=3) (q6K (⟨pi_2 hJ.1 (by omega),pi_2 hJ.2.1 (by omega),by omega⟩:u++[((((((2*i:Nat):Int):Int):Rat),((((2*j:Nat):Int):Int):Rat),((0:Int):Rat)),((1:Int):Rat))]=qt (pilP (pilH s) (pilW s) i) (j+1)/\v++[((((((2*i:Nat):Int):Int):Rat),((((2*j:Nat):Int):Int):Rat),((0:Int):Rat)),((1:Int):Rat))]=qt (pilP (-pilH s) (pilW s) i) (j+1)/\(j+1)<=3) (?_:3-(j+1)<3-j))) λh8=>I6 (?_:u.length=u.length) (?_:v.length=v.length) (qy:Bnd q97 q9s (j+1)) (Lq:u.length+[((((((2*i:Nat):Int):Int):Rat),((((2*j:Nat):Int):Int):Rat),((0:Int):Rat)),((1:Int):Rat))].length=(u++[((((((2*i:Nat):Int):Int):Rat),((((2*j:Nat):Int):Int):Rat),((0:Int):Rat)),((1:Int):Rat))]).length) (Lq:u.length+[((((((2*i:Nat):Int):Int):Rat),((((2*j:Nat):Int):Int):Rat),((0:Int):Rat)),((1:Int):Rat))].length<=3) (Lq:v.length+[((((((2*i:Nat):Int):Int):Rat),((((2*j:Nat):Int):Int):Rat),((0:Int):Rat)),((1:Int):Rat))].length=(v++[((((((2*i:Nat):Int):Int):Rat),((((2*j:Nat):Int):Int):Rat),((0:Int):Rat)),((1:Int):Rat))]).length)<|I (Lq:v.length+[((((((2*i:Nat):Int):Int):Rat),((((2*j:Nat):Int):Int):Rat),((0:Int):Rat)),((1:Int):Rat))].length<=3) (q6K (⟨pi_2 hJ.1 (by omega),pi_2 hJ.2.1 (by omega),by omega⟩:u++[((((((2*i:Nat):Int):Int):Rat),((((2*j:Nat):Int):Int):Rat),((0:Int):Rat)),((1:Int):Rat))]=qt (pilP (pilH s) (pilW s) i) (j+1)/\v++[((((((2*i:Nat):Int):Int):Rat),((((2*j:Nat):Int):Int):Rat),((0:Int):Rat)),((1:Int):Rat))]=qt (pilP (-pilH s) (pilW s) i) (j+1)/\(j+1)<=3) (?_:3-(j+1)<3-j))) λh9=>I6 (?_:u.length=u.length) (?_:v.length=v.length) (?_:A.length=A.length) (?_:B.length=B.length) (qy:Bnd q97 q9s (i+1)) (rfl:([(.kn .i64 2),(.kn .i64 2),(.dt q9e q8M kA),(.dt q9e q8M kA)]:List WA)=[(.kn .i64 2),(.kn .i64 2),(.dt q9e q8M kA),(.dt q9e q8M kA)])<|I6 (rfl:([]:List WA)=[]) (Lq:A.length+[u].length=(A++[u]).length) (Lq:A.length+[u].length<=3) (rfl:([(.kn .i64 2),(.kn .i64 2),(.dt q9e q8M kA),(.dt q9e q8M kA)]:List WA)=[(.kn .i64 2),(.kn .i64 2),(.dt q9e q8M kA),(.dt q9e q8M kA)]) (rfl:([]:List WA)=[]) (Lq:B.length+[v].length=(B++[v]).length)<|I (Lq:B.length+[v].length<=3) (q6K (⟨pi_r hI.1 hJ.1 (by omega),pi_r hI.2.1 hJ.2.1 (by omega),by omega⟩:A++[u]=AF (pilH s) (pilW s) (i+1)/\B++[v]=AF (-pilH s) (pilW s) (i+1)/\(i+1)<=3) (?_:3-(i+1)<3-i))) λh13=>I3 (?_:A.length=A.length) (?_:B.length=B.length) (?_:(0:Int)<2)<|Sp (decide (qf (qw (qw s)) 2=2-1)=true) (λh14=>have hb9:=yd h14;I3 (US hI.2.1 (by omega):RecP (2,2,kA,kA,B)) (q2E hI.2.1 (by omega) hb9:qD (2,2,kA,kA,B)=pilD s) (Rx s:Bnd q1X X5 (pilD s)) (q6K (rfl:qw (qw (qw s))=pilT s) ((UQ hI.1 (by omega):([((2,2,kA,kA,A),(⟨#[117,112]⟩:ByteArray)),(pilD s,(⟨#[100,111,119,110]⟩:ByteArray))],[])=pilC s)))) λh15=>have hb9:=yd' h15;I3 (US hI.2.1 (by omega):RecP (2,2,kA,kA,B)) (q2F hI.2.1 (by omega) hb9:mirU (2,2,kA,kA,B)=pilD s) (Rx s:Bnd q1X X5 (pilD s)) (q6K (rfl:qw (qw (qw s))=pilT s) ((UQ hI.1 (by omega):([((2,2,kA,kA,A),(⟨#[117,112]⟩:ByteArray)),(pilD s,(⟨#[100,111,119,110]⟩:ByteArray))],[])=pilC s))))⟩<;>omega)
noncomputable abbrev lpil_c:CtrB Pg:=FB.c q1Z
section
section
variable {P:Program}
def asD(t:Ty)(b:Bd):HR->HR
 | .ok vc (.c (.agg l)) ks Lw=>match reify t l with
  |some (_,x,[])=> .ok (vc++[Bnd t b x]) (.c (.agg [.dt t b x])) ks Lw
  |_=> .bad
 |_=> .bad
theorem q3V{op:Op}{ty:TypeId}{bl:Nat->Option WB}{xs:List Operand}{vs:List WV}{t:Ty}{b:Bd}{r:HR}(h:HOk P op ty xs vs bl r):HOk P op ty xs vs bl (asD t b r):=by
 unfold asD;split
 .rename_i vc l ks Lw
  split
  .rename_i b0 x hr
   intro hv hb hvc kin hk hkb;obtain⟨r1,r2⟩:=AllP.app hvc;obtain⟨g1,g2,g3⟩:=h hv hb r1 kin hk hkb;refine⟨g1.weak (G0 (HK ?_)) LImp.refl,v9 (r2 _ q5Q),g3⟩;rw[zi];obtain⟨m,e1,e2,_⟩:=vv hr;rw[e1,show WAs.exp ([]:List WA)=[]from rfl,List.append_nil];exact e2
  .exact trivial
 .exact trivial
def q19(t:Ty)(b:Bd):Ext P:=⟨λop dst bl vs=>asD t b (wop [] bl dst op .no vs),λhl=>q3V (IP hl)⟩
def fInt(P:Program)(n:Nat)(f:Field):Bool:=Nat.blt f.offset n&&match P.underlying f.type with|some (.int _)=>true|_=>false
theorem O6{xs:Array Value}{d n:Nat}(hx: ∀i,i<n-> ∃z,xs[i]?=some (.int .i64 z))(w:World): ∀fs:List Field,fs.all (fInt P n)=true->(Op.eqFields (d+1) xs xs fs).run P w= .ok true w
 |[],_=>by simp only[Op.eqFields,q6I]
 |f::fs,h=>by
  rw[List.all_cons,q5m]at h;have ih:=O6 (d:=d) hx w fs h.2;have h1:=h.1;unfold fInt at h1;rw[q5m]at h1;obtain⟨z,hz⟩:=hx f.offset (by simpa using h1.1);have h2:=h1.2;split at h2
  .rename_i k hk
   have pk:P.plainKey f.type=true:=by simp[Program.plainKey,hk]
   simp only[Op.eqFields,q6H,Sem.run_ite,run_part_plain w pk hz,run_equalIn_int w d f.type .i64 k z z hk,q6G];split
   .simp only[beq_self_eq_true,Bool.not_true,q5n,if_false];exact ih
   .exact ih
  .cases h2
def stI(P:Program)(n:Nat)(t:TypeId):Bool:=(match P.underlying t with|some (.struct fs)=>fs.toList.all (fInt P n)|_=>false)&&(!P.stoodInHeld t&&!P.eqGuardType P.depth t)
abbrev tI5:Ty:= .pr (.int .i64) (.pr (.int .i64) (.pr (.int .i64) (.pr (.int .i64) (.int .i64))))
def gNeA(P:Program):Op->Option Tmp->(Nat->Option WB)->List WV->HR
 | .binOp .neq ts _ _ _,_,_,[.c (.agg [.dt (.pr (.int .i64) (.pr (.int .i64) (.pr (.int .i64) (.pr (.int .i64) (.int .i64))))) b x]),.c (.agg [.dt (.pr (.int .i64) (.pr (.int .i64) (.pr (.int .i64) (.pr (.int .i64) (.int .i64))))) b' y])]=>
  bif stI P 5 ts then .ok [(show tI5.den from x)=y] (.c (.one (.vl (.bool false)))) [] []else .bad
 |_,_,_,_=> .bad
def q1c:Ext P:=⟨gNeA P,by
 intro op dst ty bl vs hl;unfold gNeA;split
 .rename_i ts u v yt b x b' y
  cases hs:stI P 5 ts with
  |false=>exact trivial
  |true=>
   intro hv _ hvc kin hk _;rw[qn hk];have e:(show tI5.den from x)=y:=hvc _ q5Q;refine⟨?_,⟨rfl,rfl⟩,qx⟩;obtain⟨x1,x2,x3,x4,x5⟩:=x;subst e;show OpOk P (.binOp .neq ts u v yt) ty [(u,.c (.agg [.val (.int .i64 x1),.val (.int .i64 x2),.val (.int .i64 x3),.val (.int .i64 x4),.val (.int .i64 x5)])),(v,.c (.agg [.val (.int .i64 x1),.val (.int .i64 x2),.val (.int .i64 x3),.val (.int .i64 x4),.val (.int .i64 x5)]))] [] (.c (.one (.val (.bool false)))) [];unfold stI at hs;simp only[q5m,q5o]at hs;obtain⟨h1,h2,h3⟩:=hs;split at h1
   .rename_i fs hf
    refine qP λa w H β hins _ _=>?_
    obtain⟨xs,hx,s1⟩:=hins _ q5Q;obtain⟨ys,hy,s2⟩:=hins (v,.c (.agg [.val (.int .i64 x1),.val (.int .i64 x2),.val (.int .i64 x3),.val (.int .i64 x4),.val (.int .i64 x5)])) (by simp);simp only at hx hy
    have hl: ∀{zs:Array Value},Sats β H [.val (.int .i64 x1),.val (.int .i64 x2),.val (.int .i64 x3),.val (.int .i64 x4),.val (.int .i64 x5)] zs.toList->zs= #[.int .i64 x1,.int .i64 x2,.int .i64 x3,.int .i64 x4,.int .i64 x5]:=λ{zs} hz=>by
     obtain⟨zl⟩:=zs
     match zl,hz with
     |[z1,z2,z3,z4,z5],⟨⟨e1,_⟩,⟨e2,_⟩,⟨e3,_⟩,⟨e4,_⟩,⟨e5,_⟩,_⟩=>rw[e1,e2,e3,e4,e5]
    have ex:=hl s1;have ey:=hl s2;have hff:P.underlying ts=some (.struct (P.fieldsOf ts)):=by rw[hf];simp[Program.fieldsOf,hf]
    have hfe:(P.fieldsOf ts).toList=fs.toList:=by simp[Program.fieldsOf,hf]
    have hall: ∀i,i<5-> ∃z,xs[i]?=some (.int .i64 z):=λi hi=>by
     rw[ex]
     match i,hi with
     |0,_=>exact⟨x1,rfl⟩
     |1,_=>exact⟨x2,rfl⟩
     |2,_=>exact⟨x3,rfl⟩
     |3,_=>exact⟨x4,rfl⟩
     |4,_=>exact⟨x5,rfl⟩
    have hxy:ys=xs:=ey.trans ex.symm;refine⟨.bool false,⟨rfl,rfl⟩,λ_ _ _ _=>?_⟩
    have hq:(Op.equalIn 10000 ts (.agg xs) (.agg xs)).run P w= .ok true w:=by
     rw[show(10000:Nat)=9999+1 from rfl,run_equalIn_agg w 9999 ts xs xs hff h2,hfe];exact O6 hall w _ h1
    have hn:(binOp .neq ts (.agg xs) (.agg xs)).run P w= .ok (.bool false) w:=by rw[run_neq_struct,hq];rfl
    simp only[execOp,hx,hy,hxy,q6H,run_eqGuard_agg w .neq ts u v xs xs h3,hn,q6G,q6I]
   .cases h1
 .exact trivial⟩
end
end
section
section
variable {P:Program}
theorem q54(hm:P.follows .mixedOrders=true){f:FuncId}{fn:Func}{c:Code}{n:Nat}(hf:P.funcs[f]?=some fn)(hb:fn.body=some c)(hn:fn.ntmps=n)(hname:fn.name≠ "runtime.NumGoroutine")
  {G:List (Nat×Hint P)}{t:Ty}{eb:Bd}{l:List t.den}{ws:List WV}{R:WV}(hs: ∀u∈l,Bnd t eb u)(hok: ∀v∈ws,v.ok)(hlen:Nat.ble ws.length n=true)(hR:R.ids.all (Nat.beq 100000)=true)(hRk:R.ok)(ann:Ann P)
  (hh:Hold (wp ⟨G,n,[100000]⟩ c ann (jM ws [(100000,mkB true t eb l)]) (λan e st=>wpre ⟨G,n,[100000]⟩ 999999 an st λ_ st=>retS P fn.results.toList R true t l e st))):
  vQ P f (ws.map WV.exp) [(100000,sB true t l)] R.exp [(100000,some (sB true t l))]:=by
 have h:=hh.h;have ht:=Dt hm h (wm hok (λp hp=>by simp only[q5U]at hp;subst hp;exact Ic (g:=true) hs));rw[zO]at ht;have hst:([(100000,mkB true t eb l)]:List (Nat×WB)).map (λp=>(p.1,p.2.exp))=[(100000,sB true t l)]:=by rw[q5M,List.map_nil,G8]
 rw[hst]at ht;refine AZ (λk=>k) hf hb hn hname (by rw[q5J];exact q6a hlen) ?_ ?_ ?_ ?_ ?_ ?_ ?_
 .intro p hp;simp only[q5U]at hp;subst hp;exact q6d _
 .intro p hp;simp only[q5U]at hp;subst hp;exact⟨_,q5Q⟩
 .intro p hp;simp only[q5U]at hp;subst hp;simp[look]
 .intro p hp;rfl
 .intro k hk k' b hb' hne;exact hne
 .rintro k (hk|⟨k',b,hb',hm'⟩)
  .have:=q6N.1 hR _ (WV.men_ids hk)
   have:=q68 this;subst this;right;simp[look]
  .simp only[q5U,q6F,q6E]at hb'
   obtain⟨rfl,rfl⟩:=hb'
   have:(sB true t l).men k=false:=by
    unfold sB;exact zI _ _ _
   rw[this]at hm';cases hm'
 .intro E hn' hK a w H β hr
  refine wp_mono (ht E hn' hK a w H β hr) ?_
  rintro e a' w' ⟨z,H',β',⟨ann',st0,rfl,hk0,hΨ⟩,hr0⟩
  obtain⟨_,st',hΦ,hk',he,_,_⟩:=zB hΨ hk0;clear hΨ;obtain⟨H',β',hr'⟩:=he E hn' hK a' w' H' β' hr0;unfold retS at hΦ;split at hΦ
  .rename_i B hl
   split at hΦ
   .rename_i b' l1 hB
    obtain⟨h0,hΦ⟩:=hΦ;subst h0;obtain⟨h1,R',h2,h3⟩:=Af hk' hRk hΦ;refine⟨st'.toA,H',β',⟨h1,⟨R',h2,h3⟩,λk b hb'=>?_⟩,hr'⟩;simp only[q5U,q6F,q6E]at hb';obtain⟨rfl,rfl⟩:=hb';refine⟨sB true t l1,by rw[qJ,hl];exact congrArg some (BJ hB).1,λ_ _ _ h=>h⟩
   .exact hΦ.elim
  .exact hΦ.elim
theorem q1l{t u ty:TypeId}{x y:Operand}{k k2 n m lo es bb:Nat}{cs cs2:List Atom}(hb:elB P t=some (es,bb))(hcs:cs.length=n*es)(hc:lo*es+m*es<=cs2.length)(h0:0<n)(hnm:n<=m)(hkk:k≠k2):
  OpOk P (.call {callee:= .builtin .copy,args:= #[x,y],argTypes:= #[t,u]}) ty [(x,.c (.one (.gs k n))),(y,.c (.one (.so k2 (lo*es) lo m)))] [(k,.grow es cs),(k2,.grow es cs2)] (qo .i64 (n:Int)) [(k,some (.grow es ((cs2.drop (lo*es)).take (n*es))))]:=by
 intro dst pos after guard a w H β K Q hins hkin _ hon hK;have hx:=hins _ q5Q;have hy:=hins (y,.c (.one (.so k2 (lo*es) lo m))) (by simp);simp only at hx hy;obtain⟨hrep,hown⟩:=hkin _ q5Q;obtain⟨hrep2,_⟩:=hkin (k2,.grow es cs2) (by simp);simp only at hrep hown hrep2;obtain⟨e,i,h1,h2,rfl,rfl⟩:=AI hb;have hle0:n*i.size<=m*i.size:=q6r _ hnm;rcases hy with⟨h,_⟩|⟨b2,c2,hβ2,ey⟩
 .omega
 rcases hrep2 with⟨h,_⟩|⟨b3,c3,arr2,T2,hβ3,hw2,hcap2,hle2,hsat2⟩
 .rw[hβ2]at h;cases h
 rw[hβ2]at hβ3;cases hβ3
 generalize hM:n*i.size=M at*;have hV:((arr2.toList.drop (lo*i.size)).take M).length=M:=by simp;omega
 have hmin:Nat.min m n=n:=Nat.min_eq_right hnm
 have hf:(Builtin.firstCells i.size (Nat.min m n) (.slice (some ⟨b2,lo*i.size,none⟩) m (c2-lo))).run P w= .ok ((arr2.toList.drop (lo*i.size)).take M).toArray w:=by
  have:=run_loadCells_list (P:=P) w ⟨b2,lo*i.size,none⟩ ((arr2.toList.drop (lo*i.size)).take M) (by
   intro j v hv;rw[vk,Cd hw2]
   have hj:j<M:=by
    rcases q6h j M with h'|h'
    .exact h'
    .rw[q5D (by omega)]at hv;cases hv
   rw[q5E hj,q5B]at hv
   simpa using hv)
  rw[hV]at this;simp only[Builtin.firstCells,hmin,hM,this]
 have hall:Sats β H ((cs2.drop (lo*i.size)).take M) ((arr2.toList.drop (lo*i.size)).take M):=by
  have:=(hsat2.drop (lo*i.size)).take M;rw[List.drop_take,q61,q6i (by omega)]at this;exact this
 rcases hx with⟨_,h,_⟩|⟨b,c,hβ,ex⟩
 .omega
 rcases hrep with⟨hβ',_⟩|⟨b',c',arr,T,hβ',hw,hcap,hle,hsat⟩
 .rw[hβ]at hβ';cases hβ'
 rw[hβ]at hβ';cases hβ'
 obtain⟨w',hrun,hset⟩:=wB (P:=P) ((arr2.toList.drop (lo*i.size)).take M) 0 0 w arr hw (Sats.oneC hall) (by rw[hV];omega)
 have hexec:(execOp a.eval ⟨dst,.call {callee:= .builtin .copy,args:= #[x,y],argTypes:= #[t,u]},ty,pos,after,guard⟩).run P w= .ok (.value (goInt n)) w':=by
  have hs:(storeCells ⟨b,0,none⟩ ((arr2.toList.drop (lo*i.size)).take M)).run P w= .ok () w':=by simpa using hrun
  simp only[execOp,resolve,q6H,q6I,q6G,invoke,builtin,List.map_toArray,q5M,List.map_nil,ex,ey,Builtin.copy_,q5F,q5A,q5z,qG h1,Builtin.lenOf,jO h2,hf,hs];rw[hmin]
 have hk2:Nat.beq k k2=false:=jm hkk;unfold Oper.wp;rw[hexec];refine hK _ w' H β ?_ ⟨rfl,rfl⟩ ?_
 .simpa[kwOf,qX,vg,look,hkk,Ne.symm hkk,hk2]using Step.setArr hset hβ (hown b c hβ).1 hon
 .intro k' b1 hb1
  simp only[q5U,q6F,q6E]at hb1;obtain⟨rfl,rfl⟩:=hb1;have hat:=hset.at_;rw[q64]at hat;generalize hVV:(arr2.toList.drop (lo*i.size)).take M=V at*;have hspl:(spl arr.toList 0 V).length=arr.size:=by simp[spl];omega
  have hl2:((cs2.drop (lo*i.size)).take M).length=M:=by simp;omega
  refine .inr ⟨b,c,_,T,hβ,hat,by simpa[hspl]using hcap,by simp[hspl];omega,?_⟩
  have h4:(spl arr.toList 0 V).take ((cs2.drop (lo*i.size)).take M).length=V:=by
   rw[hl2,<-hV];unfold spl;simp
  show Sats β H _ (List.take _ (spl arr.toList 0 V));rw[h4];exact hall
theorem Xa{kin:List (Nat×WB)}{k k2:Nat}{bl:Nat->Option WB}{b b2:WB}(h:kin.map (·.1)=[k,k2])(hb: ∀p∈kin,bl p.1=some p.2)(e:bl k=some b)(e2:bl k2=some b2):kin=[(k,b),(k2,b2)]:=by
 match kin,h with
 |[(q,x),(q2,x2)],h=>
  simp only[q5M,List.map_nil,List.cons.injEq,and_true]at h;obtain⟨rfl,rfl⟩:=h;have h1:=hb (q,x) q5Q;have h2:=hb (q2,x2) (by simp);simp only at h1 h2;rw[e]at h1;rw[e2]at h2
  cases h1;cases h2;rfl
def gCpS(P:Program):Op->Option Tmp->(Nat->Option WB)->List WV->HR
 | .call {callee:= .builtin .copy,args:=aas,argTypes:=ts},_,bl,[.c (.one (.gs k n w nb)),.c (.one (.so k2 lo m w2 nb2))]=>match aas.toList,ts.toList,bl k,bl k2 with
  |[_,_],[t,_],some (.gro t' b l),some (.gro t2 b2 l2)=>match elB P t with
   |some (es,_)=>bif Nat.beq w t'.w&&(Nat.beq w2 t'.w&&(Nat.beq es t'.w&&!Nat.beq k k2))then(if h:(Ty.sl t2).beq (.sl t')=true then
     (bif b2.le b then .ok [n=l.length,0<n,n<=m,lo+m<=l2.length] (vN .i64 nb n) [k,k2] [(k,some (.gro t' b (((vi (t:= .sl t2) (t':= .sl t') h l2).drop lo).take n)))]else .bad)else .bad)else .bad
   |none=> .bad
  |_,_,_,_=> .bad
 |_,_,_,_=> .bad
def wQ:Ext P:=⟨gCpS P,by
 intro op dst ty bl vs hl;unfold gCpS;split
 .rename_i aas ts _ _ k n w nb k2 lo m w2 nb2
  split
  .rename_i x y t u t' b l t2 b2 l2 ha ht hbl hbl2
   split
   .rename_i es bb hb
    cases hc:Nat.beq w t'.w&&(Nat.beq w2 t'.w&&(Nat.beq es t'.w&&!Nat.beq k k2))with
    |false=>exact trivial
    |true=>
     simp only[q5m,q5o]at hc;obtain⟨q1,q2,q3,q4⟩:=hc;have q1:=q68 q1;have q2:=q68 q2;have q3:=q68 q3
     have hkk:k≠k2:=λe=>by rw[e,Nat.beq_refl]at q4;cases q4
     subst q1 q2 q3;have:=A2 ha;subst this
     have:=A2 ht;subst this
     simp only[cond_true];split
     .rename_i htt
      have:=Ty.beq_eq htt;cases this
      cases hle:b2.le b with
      |false=>exact trivial
      |true=>
       intro hv hbo hvc kin hk hkb;rw[Xa hk hkb hbl hbl2];have g1:n=l.length:=hvc _ q5Q;have g2:0<n:=hvc (0<n) (by simp);have g3:n<=m:=hvc (n<=m) (by simp);have g4:lo+m<=l2.length:=hvc (lo+m<=l2.length) (by simp);have hn:n<=nb:=(hv _ q5Q).1;refine⟨?_,⟨hn,rfl⟩,vV (show∀z∈(l2.drop lo).take n,Bnd _ b z from λz hz=>Bnd.mono hle (hbo k2 _ hbl2 z (q6V (q5T hz))))⟩;show OpOk P _ _ [(x,.c (.one (.gs k n))),(y,_)] [(k,.grow _ (je _ l)),(k2,.grow _ (je _ l2))] (qo .i64 (n:Int)) [(k,some (.grow _ (je _ ((l2.drop lo).take n))))];rw[<-EZ,<-EY];exact q1l hb (by rw[zH,g1]) (by rw[zH,<-q63];exact q6r _ g4) g2 g3 hkk
     .exact trivial
   .exact trivial
  .exact trivial
 .exact trivial⟩
structure RoC (P:Program) where
 f:FuncId
 p:Nat
 t:Ty
 l:List t.den
 ts:List Ty
 y:dens ts
 R:WV
 sig:vQ P f ((argsE ts y).take p++ .c (.one (.gs 100000 l.length))::(argsE ts y).drop p) [(100000,sB true t l)] R.exp [(100000,some (sB true t l))]
 rok:R.ok
 rren: ∀k,R.exp.map (ren 100000 k)=R.exp
theorem VImps.ins{g:AV}: ∀{xs bs cs:List AV}{p:Nat},VImps (xs++bs) cs->xs.length=p->VImps (xs++g::bs) (cs.take p++g::cs.drop p)
 |[],bs,cs,p,h,e=>by subst e;exact⟨JF,h⟩
 |a::xs,bs,[],p,h,e=>h.elim
 |a::xs,bs,c::cs,p,h,e=>by
  subst e;exact⟨h.1,VImps.ins (xs:=xs) h.2 rfl⟩
def gRo(C:RoC P):Op->Option Tmp->(Nat->Option WB)->List WV->HR
 | .call {callee:= .value fx,args:=xs,argTypes:=ts},_,bl,v::vs=>bif A4 C.f v&&Nat.beq (vs.take C.p).length C.p then(match vs.drop C.p with
  | .c (.one (.gs k n w nb))::post=>(match bl k with
   |some B=>(match blOf true C.t B,zJ C.ts (vs.take C.p++post)with
    |some (b,l),some (bs,x)=> .ok [n=C.l.length,l=C.l,x=C.y] C.R [k] [(k,some (mkB true C.t b l))]
    |_,_=> .bad)
   |none=> .bad)
  |_=> .bad)else .bad
 |_,_,_,_=> .bad
def vf (C : RoC P) : Ext P := ⟨gRo C, by
 intro op dst ty bl vs hl;unfold gRo;split
 .rename_i fx xs ts v vs
  cases hf : A4 C.f v && Nat.beq (vs.take C.p).length C.p with
  | false => exact trivial
  | true =>
   simp only [q5m] at hf;have hp := q68 hf.2;have hf := hf.1;simp only [cond_true];split
   .rename_i k n w nb post hd
    split
    .rename_i B hbl
     split
     .rename_i b l bs x hB hx
      intro hv hbk hvc kin hk hkb;rw [zD hk hkb hbl, Cw];rw [Cw] at hl;have g1 : n = C.l.length := hvc _ q5Q;have g2 : l = C.l := hvc (l = C.l) (by simp);have g3 : x = C.y := hvc (x = C.y) (by simp);have e : vs = vs.take C.p ++ .c (.one (.gs k n w nb)) :: post := by rw [<- hd, List.take_append_drop]
      obtain ⟨b1, b2⟩ := BJ hB
      have hmem : ∀ u ∈ vs.take C.p ++ post, u.ok := λu hu => hv u (q5P _ (by
       rw [e];rcases q5N.1 hu with hu | hu
       .exact List.mem_append_left _ hu
       .exact List.mem_append_right _ (q5P _ hu)))
      obtain ⟨h1, h2, h3⟩ := wq hx hmem;refine ⟨?_, C.rok, vV (Ic (b2 (hbk k _ hbl)))⟩
      have hren := Jv (k := k) (x' := sB true C.t l) (y' := sB true C.t l) (R' := C.R.exp) (ps' := (argsE C.ts x).take C.p ++ .c (.one (.gs k n)) :: (argsE C.ts x).drop C.p) C.sig
       (by
        rw [List.map_append, q5M, List.map_take, List.map_drop, CX, g3, g1]
        simp [AV.map, Cmp.map, Atom.map, Sx.ren]) (by rw [IC, g2]) (C.rren k) (by rw [IC, g2])
      rw [List.map_append] at h1;have hi := VImps.ins (g := .c (.one (.gs k n))) (p := C.p) h1 (by rw [q5J]; exact hp);have := Bs hi hren
      have e2 : vs.map WV.exp = (vs.take C.p).map WV.exp ++ .c (.one (.gs k n)) :: post.map WV.exp := by
       conv => lhs; rw [e]
       rw [List.map_append, q5M]; rfl
      show OpOk P _ _ ((fx, v.exp) :: List.zip xs.toList (vs.map WV.exp)) [(k, B.exp)] _ [(k, some (mkB true C.t b l).exp)];rw [AR hf, e2, b1, G8]
      exact Cl (by
       have := congrArg List.length e;simp at hl this ⊢
       omega) this
     .exact trivial
    .exact trivial
   .exact trivial
 .exact trivial⟩
def mkRo (hm : P.follows .mixedOrders = true) (f : FuncId) (ts : List Ty) (y : dens ts) (p : Nat) (t : Ty) (eb : Bd) (nb : Nat) (l : List t.den) (R : WV) {fn : Func} {c : Code} (n : Nat) (hf : P.funcs[f]? = some fn) (hb : fn.body = some c) (hn : fn.ntmps = n) (hname : fn.name ≠ "runtime.NumGoroutine") (G : List (Nat × Hint P))
  (hB : FK ts (zZ ts y) y = true) (hs : (l.all λu => bndB t eb u) = true) (hnb : Nat.ble l.length nb = true) (hR : R.ok) (ann : Ann P)
  (h : Hold (wp ⟨G, n, [100000]⟩ c ann (jM ((jh ts (zZ ts y) y).take p ++ .c (.one (.gs 100000 l.length t.w nb)) :: (jh ts (zZ ts y) y).drop p) [(100000, mkB true t eb l)]) (λan e st => wpre ⟨G, n, [100000]⟩ 999999 an st λ_ st => retS P fn.results.toList R true t l e st)))
  (hl : Nat.ble ((jh ts (zZ ts y) y).take p ++ .c (.one (.gs 100000 l.length t.w nb)) :: (jh ts (zZ ts y) y).drop p).length n = true := by rfl) (hi : R.ids.all (Nat.beq 100000) = true := by rfl) (hr : ∀ k, R.exp.map (ren 100000 k) = R.exp := by exact λ_ => rfl) : RoC P :=
 ⟨f, p, t, l, ts, y, R, by
  have hok := wH (GN hB)
  have := q54 hm hf hb hn hname (λu hu => jv (q6N.1 hs u hu)) (λv hv => by
   rcases q5N.1 hv with hv | hv
   .exact hok v (q5T hv)
   .rcases q5O.1 hv with rfl | hv
    .exact ⟨q6a hnb, rfl⟩
    .exact hok v (q6V hv)) hl hi hR ann h
  rw [List.map_append, q5M, List.map_take, List.map_drop, w4] at this
  exact this, hR, hr⟩
end
end
def pvF(k:List Rat)(i:Nat)(t:Rat)(d j:Nat):Rat:=(t-k.getD (i-d+1+j) 0)/(k.getD (i-d+1+j+d) 0-k.getD (i-d+1+j) 0)
def pvA(k:List Rat)(i:Nat)(t:Rat)(d:Nat)(x:List Rat)(l:List Rat)(j:Nat):List Rat:=l.set (j+1) (l.getD (j+1) 0+pvF k i t d j*x.getD j 0)
def pvN(k:List Rat)(i:Nat)(t:Rat)(d:Nat)(x:List Rat):Nat->List Rat
 |0=>List.replicate (d+1) 0
 |j+1=>(pvA k i t d x (pvN k i t d x j) j).set j ((pvA k i t d x (pvN k i t d x j) j).getD j 0+(((1:Int):Rat) -pvF k i t d j)*x.getD j 0)
def pv(k:List Rat)(i:Nat)(t:Rat):Nat->List Rat
 |0=>[((1:Int):Rat)]
 |d+1=>pvN k i t (d+1) (pv k i t d) (d+1)
theorem DW(k:List Rat)(i:Nat)(t:Rat)(d:Nat)(x:List Rat): ∀j,(pvN k i t d x j).length=d+1
 |0=>by simp[pvN]
 |j+1=>by rw[pvN,q6S,pvA,q6S,DW k i t d x j]
theorem Mo(k:List Rat)(i:Nat)(t:Rat)(d:Nat):(pv k i t d).length=d+1:=by
 cases d with
 |zero=>rfl
 |succ d=>rw[pv,DW]
theorem set_at{l:List Rat}{a b:Nat}{v:Rat}(ha:a<l.length):(l.set a v).getD b 0=if a=b then v else l.getD b 0:=by
 rw[q5y,List.getElem?_set];by_cases e:a=b
 .subst e;simp[ha]
 .simp[e]
def pvU(k:List Rat)(i:Nat)(t:Rat)(d:Nat)(x:List Rat)(m:Nat):Rat:=if m=0 then 0 else pvF k i t d (m-1)*x.getD (m-1) 0
def pvV(k:List Rat)(i:Nat)(t:Rat)(d:Nat)(x:List Rat)(m:Nat):Rat:=(((1:Int):Rat) -pvF k i t d m)*x.getD m 0
theorem Gg(k:List Rat)(i:Nat)(t:Rat)(d:Nat)(x:List Rat): ∀j m,j<=d->m<=d->(pvN k i t d x j).getD m 0=if m<j then pvU k i t d x m+pvV k i t d x m else if m=j then pvU k i t d x m else 0
 |0,m,hj,hm=>by
  rw[pvN,if_neg (by omega)]
  have e:(List.replicate (d+1) (0:Rat)).getD m 0=0:=by
   rw[q5y,List.getElem?_replicate];split<;>rfl
  rw[e];split
  .rename_i h;subst h;rfl
  .rfl
 |j+1,m,hj,hm=>by
  have ih:=Gg k i t d x j;have hl:=DW k i t d x j;have hla:(pvA k i t d x (pvN k i t d x j) j).length=d+1:=by rw[pvA,q6S,hl]
  have ha: ∀m,(pvA k i t d x (pvN k i t d x j) j).getD m 0=if j+1=m then(pvN k i t d x j).getD (j+1) 0+pvF k i t d j*x.getD j 0 else(pvN k i t d x j).getD m 0:=λm=>by
   rw[pvA,set_at (by omega)]
  rw[pvN,set_at (by omega),ha,ha];by_cases e:j=m
  .subst e
   rw[if_pos rfl,if_neg (show¬(j+1=j) by omega),if_pos (show j<j+1 by omega),ih j (by omega) (by omega),if_neg (show¬(j<j) by omega),if_pos rfl];rfl
  .rw[if_neg e]
   by_cases e2:j+1=m
   .subst e2
    rw[if_pos rfl,if_neg (by omega),if_pos rfl,ih (j+1) (by omega) (by omega),if_neg (by omega),if_neg (by omega),Rat.zero_add,pvU,if_neg (by omega)];rfl
   .rw[if_neg e2,ih m (by omega) (by omega)]
    by_cases e3:m<j
    .rw[if_pos e3,if_pos (by omega)]
    .rw[if_neg e3,if_neg (show¬m=j by omega),if_neg (by omega),if_neg (by omega)]
theorem fr_c {a b t : Rat} (h : b - a ≠ 0) : ((1 : Int) : Rat) - (t - a) / (b - a) = (b - t) / (b - a) := by
 have e1 : ((1 : Int) : Rat) = 1 := rfl;rw [e1, Rat.div_def, Rat.div_def];have h2 : (b - a) * (b - a)⁻¹ = 1 := Rat.mul_inv_cancel _ h;generalize (b - a)⁻¹ = w at *
 grind
structure PvO (k:List Rat) (i:Nat):Prop where
 s: ∀a b,a<=b->b<k.length->k.getD a 0<=k.getD b 0
 w:k.getD i 0<k.getD (i+1) 0
theorem UW{k:List Rat}{i:Nat}{t:Rat}(h:PvO k i): ∀d,d<=i->i+d<k.length-> ∀j,j<=d->(pv k i t d).getD j 0=bsp k t i d (i-d+j)
 |0,_,_,j,hj=>by
  have:j=0:=by omega
  subst this;rw[pv,bsp,if_pos (by omega)];rfl
 |d+1,hd,hl,j,hj=>by
  have ih:=UW (t:=t) h d (by omega) (by omega)
  have hout: ∀q,q<i-d\/i<q->q+d<i\/i<q->bsp k t i d q=0:=λq _ hq=>by
   cases d with
   |zero=>rw[bsp,if_neg (by omega)]
   |succ d=>rw[bsp,if_pos (by omega)]
  rw[pv];rw[Gg k i t (d+1) (pv k i t d) (d+1) j (q6d _) hj]
  conv=>rhs;rw[bsp,if_neg (show¬(i<i-(d+1)+j\/i-(d+1)+j+(d+1)<i) by omega)]
  have hU:pvU k i t (d+1) (pv k i t d) j=(t-k.getD (i-(d+1)+j) 0)/(k.getD (i-(d+1)+j+(d+1)) 0-k.getD (i-(d+1)+j) 0)*bsp k t i d (i-(d+1)+j):=by
   unfold pvU;split
   .rename_i e;subst e
    rw[hout (i-(d+1)+0) (by omega) (by omega),Rat.mul_zero]
   .rename_i e
    rw[ih (j-1) (by omega),pvF,show i-(d+1)+1+(j-1)=i-(d+1)+j by omega,show i-d+(j-1)=i-(d+1)+j by omega]
  have hV:j<d+1->pvV k i t (d+1) (pv k i t d) j=(k.getD (i-(d+1)+j+(d+1)+1) 0-t)/(k.getD (i-(d+1)+j+(d+1)+1) 0-k.getD (i-(d+1)+j+1) 0)*bsp k t i d (i-(d+1)+j+1):=λhj2=>by
   unfold pvV;rw[ih j (by omega),pvF,show i-(d+1)+1+j=i-(d+1)+j+1 by omega,show i-d+j=i-(d+1)+j+1 by omega,show i-(d+1)+j+1+(d+1)=i-(d+1)+j+(d+1)+1 by omega];rw[fr_c];have h1:=h.s (i-(d+1)+j+1) i (by omega) (by omega);have h2:=h.s (i+1) (i-(d+1)+j+(d+1)+1) (by omega) (by omega);have h3:=h.w
   grind
  by_cases e:j<d+1
  .rw[if_pos e,hU,hV e]
  .rw[if_neg e,if_pos (by omega),hU,hout (i-(d+1)+j+1) (by omega) (by omega),Rat.mul_zero,Rat.add_zero]
section
def ipF(k:List Rat)(t:Rat):Nat->Nat->Nat->Nat
 |0,_,b=>b
 |n+1,i,b=>if i+1<k.length then(if 0<=qL (k.getD i 0) (k.getD (i+1) 0)then ipF k t n (i+1) b else if qL t (k.getD (i+1) 0)<0 then i else ipF k t n (i+1) i)else b
def jn(k:List Rat)(t:Rat):Nat:=if ivO k t then 0 else ipF k t k.length 0 0
theorem LW{k:List Rat}{t:Rat}: ∀n i b,b<=k.length->ipF k t n i b<=k.length
 |0,_,_,h=>h
 |n+1,i,b,h=>by
  rw[ipF]
  repeat' split
  .exact LW n _ _ h
  .omega
  .exact LW n _ _ (by omega)
  .exact h
theorem X1(k:List Rat)(t:Rat):jn k t<=k.length:=by
 unfold jn;split
 .omega
 .exact LW _ _ _ (q6A _)
section
variable {k:List Rat} {t:Rat} {i b:Nat}
theorem ip_a(h:ipF k t (k.length-i) i b=ipF k t k.length 0 0)(hi:i+1<k.length)(hc:0<=qL (k.getD i 0) (k.getD (i+1) 0)):ipF k t (k.length-(i+1)) (i+1) b=ipF k t k.length 0 0:=by
 rw[<-h,show k.length-i=k.length-(i+1)+1 by omega];conv=>rhs;rw[ipF,if_pos hi,if_pos hc]
theorem ip_b(h:ipF k t (k.length-i) i b=ipF k t k.length 0 0)(hi:i+1<k.length)(hc: ¬0<=qL (k.getD i 0) (k.getD (i+1) 0))(hd: ¬qL t (k.getD (i+1) 0)<0):ipF k t (k.length-(i+1)) (i+1) i=ipF k t k.length 0 0:=by
 rw[<-h,show k.length-i=k.length-(i+1)+1 by omega];conv=>rhs;rw[ipF,if_pos hi,if_neg hc,if_neg hd]
theorem ip_c(h:ipF k t (k.length-i) i b=ipF k t k.length 0 0)(hi:i+1<k.length)(hc: ¬0<=qL (k.getD i 0) (k.getD (i+1) 0))(hd:qL t (k.getD (i+1) 0)<0):i=ipF k t k.length 0 0:=by
 rw[<-h,show k.length-i=k.length-(i+1)+1 by omega,ipF,if_pos hi,if_neg hc,if_pos hd]
theorem ip_d(h:ipF k t (k.length-i) i b=ipF k t k.length 0 0)(hi: ¬i+1<k.length):b=ipF k t k.length 0 0:=by
 rw[<-h]
 cases k.length-i with
 |zero=>rfl
 |succ n=>rw[ipF,if_neg hi]
end
theorem FQ{x y:Rat}:qL x y<0↔x<y:=by unfold qL;(repeat' split)<;>grind
theorem q3F{x y:Rat}:0<qL x y↔y<x:=by unfold qL;(repeat' split)<;>grind
theorem Uf{x y:Rat}:0<=qL x y↔y<=x:=by unfold qL;(repeat' split)<;>grind
theorem M1{k:List Rat}{t:Rat}: ∀n,ivl k t n<n->t<k.getD (ivl k t n+1) 0
 |0,h=>by omega
 |n+1,h=>by
  rw[ivl]at h⊢;split at h
  .rename_i c
   rw[if_pos c];by_cases e:ivl k t n=n
   .rw[e];exact FQ.1 c
   .exact M1 n (by have:=BP k t n;omega)
  .omega
theorem M0{k:List Rat}{t:Rat}: ∀n,0<ivl k t n->k.getD (ivl k t n) 0<=t
 |0,h=>by rw[ivl]at h;omega
 |n+1,h=>by
  rw[ivl]at h⊢;split at h
  .rename_i c;rw[if_pos c];exact M0 n h
  .rename_i c;rw[if_neg c];have:=mt FQ.2 c;grind
structure IpO (k:List Rat) (d:Nat):Prop where
 s: ∀a b,a<=b->b<k.length->k.getD a 0<=k.getD b 0
 l:2*d+2<=k.length
 e:k.getD (k.length-2-d) 0<k.getD (k.length-1-d) 0
 z:k.getD (k.length-1) 0<=k.getD (k.length-1-d) 0
 a:k.getD d 0<=k.getD 0 0
theorem NI{k:List Rat}{t:Rat}{d:Nat}(h:IpO k d)(b:Nat): ∀n i,k.length-1-d<=i->ipF k t n i b=b
 |0,_,_=>rfl
 |n+1,i,hi=>by
  rw[ipF];split
  .rename_i c
   rw[if_pos (Uf.2 (by
    have h1:=h.s (i+1) (k.length-1) (by omega) (by omega);have h2:=h.s (k.length-1-d) i hi (by omega);have h3:=h.z
    grind)),NI h b n _ (by omega)]
  .rfl
theorem ip_w{k:List Rat}{t:Rat}{d:Nat}(h:IpO k d)(hO: ¬ivO k t):k.getD (ivl k t (k.length-2-d)) 0<k.getD (ivl k t (k.length-2-d)+1) 0:=by
 have hl:=BP k t (k.length-2-d);by_cases c:ivl k t (k.length-2-d)<k.length-2-d
 .have h1:=M1 _ c
  by_cases z:ivl k t (k.length-2-d)=0
  .rw[z]at h1⊢
   have h2: ¬qL t (k.getD 0 0)<0:=λq=>hO (.inl q)
   have h3:=mt FQ.2 h2
   grind
  .have h2:=M0 (k:=k) (t:=t) (k.length-2-d) (by omega)
   grind
 .have e:ivl k t (k.length-2-d)=k.length-2-d:=by omega
  rw[e,show k.length-2-d+1=k.length-1-d by have:=h.l;omega];exact h.e
theorem OU{k:List Rat}{t:Rat}{d:Nat}(h:IpO k d)(hO: ¬ivO k t): ∀n i b,i<=ivl k t (k.length-2-d)->k.length-i<=n->ipF k t n i b=ivl k t (k.length-2-d)
 |0,i,b,hi,hn=>by have:=BP k t (k.length-2-d);have:=h.l;omega
 |n+1,i,b,hi,hn=>by
  have hl:=BP k t (k.length-2-d);have hk:=h.l;rw[ipF,if_pos (by omega)];by_cases c:i<ivl k t (k.length-2-d)
  .have h1:=h.s (i+1) (ivl k t (k.length-2-d)) (by omega) (by omega)
   have h2:=M0 (k:=k) (t:=t) (k.length-2-d) (by omega);split
   .exact OU h hO n _ _ (by omega) (by omega)
   .rw[if_neg (mt FQ.1 (by grind))]
    exact OU h hO n _ _ (by omega) (by omega)
  .have e:i=ivl k t (k.length-2-d):=by omega
   subst e;have hw:=ip_w h hO;rw[if_neg (mt Uf.1 (by grind))];split
   .rfl
   .rename_i g
    by_cases c2:ivl k t (k.length-2-d)<k.length-2-d
    .exact absurd (FQ.2 (M1 _ c2)) g
    .exact NI h _ n _ (by omega)
theorem HY{k:List Rat}{t:Rat}{d:Int}(h:IpO k d.toNat):jn k t=jG k d t:=by
 unfold jn jG;split
 .rfl
 .rename_i hO
  exact OU h hO _ _ _ (q6A _) (by omega)
theorem Us{k:List Rat}{t:Rat}{d:Nat}(h:IpO k d)(hO: ¬ivO k t):d<=ivl k t (k.length-2-d):=by
 have hw:=ip_w (t:=t) h hO;refine q6U λc=>?_
 have h1:=h.s 0 (ivl k t (k.length-2-d)) (by omega) (by have:=h.l;omega);have h2:=h.s (ivl k t (k.length-2-d)+1) d (by omega) (by have:=h.l;omega);have h3:=h.a
 grind
theorem q45{k:List Rat}{t:Rat}{d:Int}(h:IpO k d.toNat)(hO: ¬ivO k t):PvO k (jn k t):=by
 rw[HY h];unfold jG;rw[if_neg hO]
 exact⟨h.s,ip_w h hO⟩
theorem q2K{k:List Rat}{t:Rat}{d:Int}(h:IpO k d.toNat)(hO: ¬ivO k t):pv k (jn k t) t d.toNat=jC k d t:=by
 have hp:=q45 (d:=d) h hO;have hi:jn k t=jG k d t:=HY h;have hd:d.toNat<=jG k d t:=by unfold jG;rw[if_neg hO];exact Us h hO
 have hu:jG k d t<=k.length-2-d.toNat:=by unfold jG;rw[if_neg hO];exact BP k t _
 have hl:=h.l;apply List.ext_getElem
 .rw[Mo,IW hO]
 .intro j h1 h2
  have g1:(pv k (jn k t) t d.toNat)[j]=(pv k (jn k t) t d.toNat).getD j 0:=(z6 h1).symm;have h3:j<=d.toNat:=by rw[Mo]at h1;omega
  rw[g1,UW hp d.toNat (by rw[hi];exact hd) (by rw[hi];omega) j h3,hi];simp only[jC,if_neg hO,List.getElem_map,List.getElem_range]
end
theorem Bp:FI.OK ⟨235,[q9e,q91,.rat],[q8d,q8m,q8F],λz=>(λ(k:List Rat)(d:Int)(t:Rat)=>[0<k.length]) z.1 z.2.1 z.2.2,λb z=>(λ(k:List Rat)(d:Int)(t:Rat)=> .tup [.one (.dt q97 (.n (b0 b).len) (jn k t)),.one (.dt q91 (.n 7) (ivE k t))]) z.1 z.2.1 z.2.2⟩ Pg:=mF Tryz.func235 [(88,.cI jZ)] (λ(k:List Rat)(d:Int)(t:Rat) b hx hp=>q9 (q8 (show jn k t<=(b0 b).len from q6e (X1 k t) (Bnds.h3 hx).1.slm.1) rfl) (q9 (q8 (I0 k t) rfl) qr)) (λ(k:List Rat)(d:Int)(t:Rat) hx hp=>by
 have hl0:k.length<=1048576:=hx.1.1;have hx1:Int.natAbs d<=1099511627776:=hx.2.1;have hp0:0<k.length:=hp _ (q5Q)
 refine⟨.cond (.dead)<|.cond .nil<|.h 1 16 (.i .sub)<|.cond .nil<|.loop [.s 9 q97 q8Y,.s 8 q97 q8Y] (λ((i,m):Nat×Nat)=>ipF k t (k.length-i) i m=ipF k t k.length 0 0/\i<=k.length) (λ((i,m):Nat×Nat)=>k.length-i) λ((i,m):Nat×Nat)=> .nil,kX (Sp (k.length=0) (λh1=>(?_:False)) λh2=>I (?_:0<k.length)<|Sp (qL t (k.getD 0 0)<0) (λh3=>q6K ((if_pos (.inl h3)).symm:0=jn k t) ((if_pos (.inl h3)).symm:7=ivE k t)) λh4=>I2 (?_:1<=k.length) (?_:k.length-1<k.length)<|Sp (0<qL t (k.getD (k.length-1) 0)) (λh5=>q6K ((if_pos (.inr h5)).symm:0=jn k t) ((if_pos (.inr h5)).symm:7=ivE k t)) λh6=>I (⟨rfl,q6A _⟩:ipF k t (k.length-0) 0 0=ipF k t k.length 0 0/\0<=k.length) λ(i:Nat)(m:Nat)(hb7:HB [.s 9 q97 q8Y,.s 8 q97 q8Y] (i,m))(hI:ipF k t (k.length-i) i m=ipF k t k.length 0 0/\i<=k.length)=>have hv14:=(show i<=1048576 from hb7.1);have hv15:=(show m<=1048576 from hb7.2);have hIi:=hI.2;Sp (i+1<k.length) (λh8=>I2 (?_:i<k.length) (?_:i+1<k.length)<|Sp (0<=qL (k.getD i 0) (k.getD (i+1) 0)) (λh9=>I (qy:Bnd q97 q8Y (i+1)) (q6K (⟨ip_a hI.1 (by omega) h9,by omega⟩:ipF k t (k.length-(i+1)) (i+1) m=ipF k t k.length 0 0/\(i+1)<=k.length) (?_:k.length-(i+1)<k.length-i))) λh10=>I (?_:i+1<k.length)<|Sp (qL t (k.getD (i+1) 0)<0) (λh11=>q6K ((ip_c hI.1 (by omega) h10 h11).trans (if_neg (not_or.2 ⟨h4,h6⟩)).symm:i=jn k t) ((if_neg (not_or.2 ⟨h4,h6⟩)).symm:0=ivE k t)) λh12=>I (qy:Bnd q97 q8Y (i+1)) (q6K (⟨ip_b hI.1 (by omega) h10 h12,by omega⟩:ipF k t (k.length-(i+1)) (i+1) i=ipF k t k.length 0 0/\(i+1)<=k.length) (?_:k.length-(i+1)<k.length-i))) λh13=>q6K ((ip_d hI.1 (by omega)).trans (if_neg (not_or.2 ⟨h4,h6⟩)).symm:m=jn k t) ((if_neg (not_or.2 ⟨h4,h6⟩)).symm:0=ivE k t))⟩<;>omega)
theorem zf:FI.OK ⟨237,[.rat,.rat,.rat],[q9a,q9a,q9a],λ_=>[],λb z=>(λ(x:Rat)(y:Rat)(t:Rat)=>oA .rat (.n (((b2 b).nb+(b0 b).nb+1)+((b1 b).nb+(b0 b).nb+1))) ((t-x)/(y-x))) z.1 z.2.1 z.2.2⟩ Pg:=mF Tryz.func237 [(79,.cI jB),(80,.cI wW)] (λ(x:Rat)(y:Rat)(t:Rat) b hx hp=>v7 (Cm (CR (Bnds.h3 hx).2.2 (Bnds.h3 hx).1) (CR (Bnds.h3 hx).2.1 (Bnds.h3 hx).1))) (λ(x:Rat)(y:Rat)(t:Rat) hx hp=>by
 refine⟨.nil,kX ((q6J ((t-x)/(y-x))))⟩)
section
def pvB(m:Nat):Nat->Nat
 |0=>2
 |d+1=>2*pvB m d+(8*m+8)
theorem Tp(m:Nat){a c:Nat}(h:a<=c):pvB m a<=pvB m c:=by
 induction h with
 |refl=>exact q6d _
 |step h ih=>rw[pvB];omega
section
variable {k:List Rat} {t:Rat} {m B:Nat} {x:List Rat}
theorem Pm(hk: ∀v∈k,Bnd .rat (.n m) v)(ht:Bnd .rat (.n m) t)(i d j:Nat):Bnd .rat (.n (4*m+2)) (pvF k i t d j):=
 qQ (Kw (A8 ht (zY hk _)) (A8 (zY hk _) (zY hk _))) (by omega)
theorem q4S(hk: ∀v∈k,Bnd .rat (.n m) v)(ht:Bnd .rat (.n m) t)(hx: ∀v∈x,Bnd .rat (.n B) v)(i d j:Nat):Bnd .rat (.n (4*m+2+B)) (pvU k i t d x j):=by
 unfold pvU;split
 .exact qK _
 .exact za (Pm hk ht _ _ _) (zY hx _)
theorem q4T(hk: ∀v∈k,Bnd .rat (.n m) v)(ht:Bnd .rat (.n m) t)(hx: ∀v∈x,Bnd .rat (.n B) v)(i d j:Nat):Bnd .rat (.n (4*m+4+B)) (pvV k i t d x j):=by
 unfold pvV;exact qQ (za (A8 (KS 1 (q6d 1)) (Pm hk ht _ _ _)) (zY hx _)) (by omega)
theorem UT(hk: ∀v∈k,Bnd .rat (.n m) v)(ht:Bnd .rat (.n m) t)(hx: ∀v∈x,Bnd .rat (.n B) v){i d j:Nat}(hj:j<d):Bnd .rat (.n (2*B+(8*m+8))) ((pvN k i t d x j).getD (j+1) 0+pvF k i t d j*x.getD j 0):=by
 rw[Gg k i t d x j (j+1) (by omega) (by omega),if_neg (by omega),if_neg (by omega),Rat.zero_add];exact qQ (za (Pm hk ht _ _ _) (zY hx _)) (by omega)
theorem Xy{i d j:Nat}(hj:j<d):(pvA k i t d x (pvN k i t d x j) j).getD j 0=pvU k i t d x j:=by
 rw[pvA,set_at (by rw[DW];omega),if_neg (by omega),Gg k i t d x j j (by omega) (by omega),if_neg (by omega),if_pos rfl]
theorem UV(hk: ∀v∈k,Bnd .rat (.n m) v)(ht:Bnd .rat (.n m) t)(hx: ∀v∈x,Bnd .rat (.n B) v){i d j:Nat}(hj:j<d):Bnd .rat (.n (2*B+(8*m+8))) ((pvA k i t d x (pvN k i t d x j) j).getD j 0+(((1:Int):Rat) -pvF k i t d j)*x.getD j 0):=by
 rw[Xy hj];exact qQ (AD (q4S hk ht hx i d j) (q4T hk ht hx i d j)) (by omega)
theorem UU(hk: ∀v∈k,Bnd .rat (.n m) v)(ht:Bnd .rat (.n m) t)(hx: ∀v∈x,Bnd .rat (.n B) v){i d:Nat}: ∀j,j<=d-> ∀v∈pvN k i t d x j,Bnd .rat (.n (2*B+(8*m+8))) v
 |0,_=>λv hv=>by rw[pvN]at hv;rw[(List.mem_replicate.1 hv).2];exact qK _
 |j+1,h=>λv hv=>by
  rw[pvN]at hv;rcases List.mem_or_eq_of_mem_set hv with h1|h1
  .rw[pvA]at h1
   rcases List.mem_or_eq_of_mem_set h1 with h2|h2
   .exact UU hk ht hx j (by omega) v h2
   .rw[h2];exact UT hk ht hx (by omega)
  .rw[h1];exact UV hk ht hx (by omega)
theorem pv_b(hk: ∀v∈k,Bnd .rat (.n m) v)(ht:Bnd .rat (.n m) t)(i:Nat): ∀d,∀v∈pv k i t d,Bnd .rat (.n (pvB m d)) v
 |0=>λv hv=>by rw[pv,q5U]at hv;rw[hv];exact qQ (KS 1 (q6d 1)) (by rw[pvB];omega)
 |d+1=>λv hv=>by
  rw[pv]at hv;exact UU hk ht (pv_b hk ht i d) (d+1) (q6d _) v hv
theorem pv_s{i q j:Nat}{o:List Rat}(hx:x=pv k i t (q-1))(hq:1<=q)(ho:o=pvN k i t q x j)(hj:j=q):o=pv k i t (q+1-1):=by
 subst hj;subst hx
 obtain⟨d,rfl⟩: ∃d,j=d+1:=⟨j-1,by omega⟩;rw[ho];rfl
end
section
variable {k:List Rat} {t:Rat} {i q j:Nat} {x o:List Rat}
theorem q2J{a:Nat}(h:a<=6):pvB 4096 a<=2065016:=q6e (Tp 4096 h) (by decide)
theorem UX(hk:Bnd q9e q8x k)(ht:Bnd .rat q9i t)(hx:x=pv k i t (q-1))(hq:1<=q)(hq6:q<=6)(ho:o=pvN k i t q x j)(hj:j<q):
  Bnd .rat q8Z (o.getD (j+1) 0+pvF k i t q j*x.getD j 0)/\Bnd .rat q8Z ((o.set (j+1) (o.getD (j+1) 0+pvF k i t q j*x.getD j 0)).getD j 0+(((1:Int):Rat) -pvF k i t q j)*x.getD j 0):=by
 subst ho;subst hx
 have hb:=pv_b (λv hv=>hk.2 v hv) ht i (q-1)
 have e:2*pvB 4096 (q-1)+(8*4096+8)=pvB 4096 q:=by
  obtain⟨d,rfl⟩: ∃d,q=d+1:=⟨q-1,by omega⟩;rfl
 have hm:=q2J hq6;exact⟨qQ (UT (λv hv=>hk.2 v hv) ht hb hj) (by omega),qQ (UV (λv hv=>hk.2 v hv) ht hb hj) (by omega)⟩
theorem ip_r{d:Int}(h:IpO k d.toNat)(hO: ¬ivO k t):d.toNat<=jn k t/\jn k t+d.toNat+1<k.length:=by
 have hi:jn k t=jG k d t:=HY h;have h1:=Us h hO;have h2:=BP k t (k.length-2-d.toNat);have h3:=h.l;rw[hi];unfold jG;rw[if_neg hO];omega
theorem q2L{d:Int}(h:IpO k d.toNat)(hO: ¬ivO k t)(hx:x=pv k (jn k t) t (q-1))(hq:q=d.toNat+1):x=jC k d t:=by
 rw[hx,<-q2K h hO,hq];rfl
end
end
theorem Ar:FI.OK ⟨216,[q9e,q91,.rat],[q8l,q9v,q9a],λz=>(λ(k:List Rat)(d:Int)(t:Rat)=>[Bnd q9e q8x k,Bnd .rat q9i t,0<=d,d<=6,IpO k d.toNat]) z.1 z.2.1 z.2.2,λb z=>(λ(k:List Rat)(d:Int)(t:Rat)=> .tup [.one (.dt q97 (.n 1048577) (jG k d t-d.toNat)),.one (.dt q9e (.s 7 q8Z) (jC k d t)),.one (.dt q91 (.n 7) (ivE k t))]) z.1 z.2.1 z.2.2⟩ Pg:=mF Tryz.func216 [(37,.cI j8),(79,.cI jB),(99,.cI Ag),(100,.cI qv),(235,.cI Bp),(237,.cI zf)] (λ(k:List Rat)(d:Int)(t:Rat) b hx hp=>by have h1:Bnd q9e q8x k:=hp _ (q5Q);have h2:Bnd .rat q9i t:=hp _ (q5P _ (q5Q));have h4:d<=6:=hp _ (q5P _ (q5P _ (q5P _ (q5Q))));have h:=QY k d t;have l:=Hz k d t;exact q9 (q8 (show jG k d t-d.toNat<=1048577 by have:=h1.1;omega) rfl) (q9 (q8 ⟨show(jC k d t).length<=7 by omega,OG (λv hv=>h1.2 v hv) h2 h4⟩ rfl) (q9 (q8 (I0 k t) rfl) qr))) (λ(k:List Rat)(d:Int)(t:Rat) hx hp=>by
 have hl0:k.length<=1048576:=hx.1.1;have hx1:Int.natAbs d<=8:=hx.2.1;have hp0:Bnd q9e q8x k:=hp _ (q5Q);have hp1:Bnd .rat q9i t:=hp _ (q5P _ (q5Q));have hp2:0<=d:=hp _ (q5P _ (q5P _ (q5Q)));have hp3:d<=6:=hp _ (q5P _ (q5P _ (q5P _ (q5Q))));have hp4:IpO k d.toNat:=hp _ (q5P _ (q5P _ (q5P _ (q5P _ (q5Q)))))
 refine⟨.cond .nil<|.cond (.dead)<|.cond (.dead)<|.cond (.dead)<|.h 6 1 (.mk (.im .rat q8Z))<|.loop [.s 12 q97 q9v,.s 11 q9e (.s 64 q8Z)] (λ((q,x):Nat×List Rat)=>x=pv k (jn k t) t (q-1)/\1<=q/\q<=d.toNat+1) (λ((q,x):Nat×List Rat)=>d.toNat+1-q) λ((q,x):Nat×List Rat)=> .cond (.h 10 2 (.mk (.arr .rat q8Z))<|.loop [.s 56 q97 q9p,.a 53 .rat q8Z] (λ((j,o):Nat×List Rat)=>o=pvN k (jn k t) t q x j/\j<=x.length) (λ((j,o):Nat×List Rat)=>x.length-j) λ((j,o):Nat×List Rat)=> .cond (.h 14 2 (.i .sub) .nil)<|.pre 19 (.frz 53 true [13]) .nil)<|.h 20 2 (.i (.n (jn k t-d.toNat) 1048576)) .nil,kX (have hkl:=hp4.l;I (?_:0<k.length)<|Sp (ivE k t≠0) (λh1=>q6K (q47 h1:0=jG k d t-d.toNat) (q6K (q48 h1:[]=jC k d t) (q6J (ivE k t)))) λh2=>have hO:=(D8 h2);have hiv:=(ip_r hp4 hO);Sp (d<0) (λh3=>(?_:False)) λh4=>Sp (((jn k t:Nat):Int) -d<0) (λh5=>(?_:False)) λh6=>Sp (((k.length:Nat):Int)<=((jn k t:Nat):Int)+d) (λh7=>(?_:False)) λh8=>I (⟨rfl,q6d _,by omega⟩:[((1:Int):Rat)]=pv k (jn k t) t (1-1)/\1<=1/\1<=d.toNat+1) λ(q:Nat)(x:List Rat)(hb9:HB [.s 12 q97 q9v,.s 11 q9e (.s 64 q8Z)] (q,x))(hI:x=pv k (jn k t) t (q-1)/\1<=q/\q<=d.toNat+1)=>have hv16:=(show q<=8 from hb9.1);have hI1:=hI.2.1;have hI2:=hI.2.2;have hxl:=(show x.length=q by rw[hI.1,Mo];omega);Sp ((q:Int)<=d) (λh10=>I2 (?_:q+1=q+1) (⟨rfl,q6A _⟩:(List.replicate (q+1) (0:Rat))=pvN k (jn k t) t q x 0/\0<=x.length) λ(j:Nat)(o:List Rat)(hb11:HB [.s 56 q97 q9p,.a 53 .rat q8Z] (j,o))(hJ:o=pvN k (jn k t) t q x j/\j<=x.length)=>have hv14:=(show j<=64 from hb11.1);have hJi:=hJ.2;have hol:=(show o.length=q+1 by rw[hJ.1,DW]);Sp (j<x.length) (λh12=>I6 (?_:j<x.length) (?_:q<=jn k t) (?_:(((jn k t) -q)+1)+j<k.length) (?_:((((jn k t) -q)+1)+j)+q<k.length) (?_:j+1<q+1) (?_:j+1<o.length)<|I6 (?_:j+1<q+1) (?_:j+1<o.length) ((UX hp0 hp1 hI.1 (by omega) (by omega) hJ.1 (by omega)).1:Bnd .rat q8Z ((o.getD (j+1) 0)+(((t-(k.getD ((((jn k t) -q)+1)+j) 0))/((k.getD (((((jn k t) -q)+1)+j)+q) 0) -(k.getD ((((jn k t) -q)+1)+j) 0)))*(x.getD j 0)))) (by first|omega|(rw[q6S];omega):j<q+1) (by first|omega|(rw[q6S];omega):j<(o.set (j+1) ((o.getD (j+1) 0)+(((t-(k.getD ((((jn k t) -q)+1)+j) 0))/((k.getD (((((jn k t) -q)+1)+j)+q) 0) -(k.getD ((((jn k t) -q)+1)+j) 0)))*(x.getD j 0)))).length) (?_:j<q+1)<|I3 (by first|omega|(rw[q6S];omega):j<(o.set (j+1) ((o.getD (j+1) 0)+(((t-(k.getD ((((jn k t) -q)+1)+j) 0))/((k.getD (((((jn k t) -q)+1)+j)+q) 0) -(k.getD ((((jn k t) -q)+1)+j) 0)))*(x.getD j 0)))).length) ((UX hp0 hp1 hI.1 (by omega) (by omega) hJ.1 (by omega)).2:Bnd .rat q8Z (((o.set (j+1) ((o.getD (j+1) 0)+(((t-(k.getD ((((jn k t) -q)+1)+j) 0))/((k.getD (((((jn k t) -q)+1)+j)+q) 0) -(k.getD ((((jn k t) -q)+1)+j) 0)))*(x.getD j 0)))).getD j 0)+((((1:Int):Rat) -((t-(k.getD ((((jn k t) -q)+1)+j) 0))/((k.getD (((((jn k t) -q)+1)+j)+q) 0) -(k.getD ((((jn k t) -q)+1)+j) 0))))*(x.getD j 0)))) (qy:Bnd q97 q9p (j+1)) (q6K (⟨by rw[hJ.1];rfl,by omega⟩:((o.set (j+1) ((o.getD (j+1) 0)+(((t-(k.getD ((((jn k t) -q)+1)+j) 0))/((k.getD (((((jn k t) -q)+1)+j)+q) 0) -(k.getD ((((jn k t) -q)+1)+j) 0)))*(x.getD j 0)))).set j (((o.set (j+1) ((o.getD (j+1) 0)+(((t-(k.getD ((((jn k t) -q)+1)+j) 0))/((k.getD (((((jn k t) -q)+1)+j)+q) 0) -(k.getD ((((jn k t) -q)+1)+j) 0)))*(x.getD j 0)))).getD j 0)+((((1:Int):Rat) -((t-(k.getD ((((jn k t) -q)+1)+j) 0))/((k.getD (((((jn k t) -q)+1)+j)+q) 0) -(k.getD ((((jn k t) -q)+1)+j) 0))))*(x.getD j 0))))=pvN k (jn k t) t q x (j+1)/\(j+1)<=x.length) (?_:x.length-(j+1)<x.length-j))) λh13=>I2 (?_:q+1=o.length) (qy:Bnd q97 q9v (q+1)) (q6K (⟨pv_s hI.1 hI.2.1 hJ.1 (by omega),by omega,by omega⟩:o=pv k (jn k t) t ((q+1) -1)/\1<=(q+1)/\(q+1)<=d.toNat+1) (?_:d.toNat+1-(q+1)<d.toNat+1-q))) λh15=>I2 (Lb (by omega) (by omega):qU .sub .i64 ((jn k t:Nat):Int) d ((jn k t-d.toNat:Nat):Int)) (?_:jn k t-d.toNat<=1048576) (q6K (by rw[HY hp4]:jn k t-d.toNat=jG k d t-d.toNat) (q6K (q2L hp4 hO hI.1 (by omega):x=jC k d t) (OY hO:0=ivE k t))))⟩<;>omega)
abbrev Spl:Type:=Int×List Rat×List F4
abbrev jp:Ty:= .pr q91 (.pr q9e (.sl jx))
abbrev z4:F4:=(0,0,0,0)
def hsN(ps:List F4)(l:List Rat)(f:Nat):Nat->F4
 |0=>(0,0,0,0)
 |n+1=>homS (hsN ps l f n) (l.getD n 0) (ps.getD (f+n) (0,0,0,0))
theorem Xg:jN d0=(0,0,0,0):=by
 unfold jN;simp only[Rat.mul_zero]
theorem QJ(ps:List j2)(i:Nat):(ps.map jN).getD i (0,0,0,0)=jN (ps.getD i d0):=by
 rw[q5y,q5y,List.getElem?_map]
 cases ps[i]? with
 |none=>exact Xg.symm
 |some p=>rfl
theorem QQ(ps:List j2)(l:List Rat)(f:Nat): ∀n,hsN (ps.map jN) l f n=homN ps l f n
 |0=>rfl
 |n+1=>by rw[hsN,homN,QQ ps l f n,QJ]
theorem Uq{ps:List F4}{l:List Rat}{m e:Nat}(hp: ∀p∈ps,Bnd jx (bF4 m) p)(hl: ∀v∈l,Bnd .rat (.n e) v)(f:Nat): ∀n,Bnd jx (bF4 (n*(e+m+1))) (hsN ps l f n)
 |0=>⟨qK _,qK _,qK _,qK _⟩
 |n+1=>by
  have h:=Uq hp hl f n
  have hh:Bnd jx (bF4 m) (ps.getD (f+n) (0,0,0,0)):=by
   by_cases hi:f+n<ps.length
   .exact hp _ (show ps.getD (f+n) (0,0,0,0)∈ps by rw[z6 hi];exact q6M hi)
   .have:ps.getD (f+n) (0,0,0,0)=(0,0,0,0):=by rw[q5y,q5D (by omega)];rfl
    rw[this];exact⟨qK _,qK _,qK _,qK _⟩
  have hx:Bnd .rat (.n e) (l.getD n 0):=zY hl n;have e1:(n+1)*(e+m+1)=n*(e+m+1)+(e+m)+1:=by rw[q63];omega
  rw[e1];have s: ∀{a c:Rat},Bnd .rat (.n (n*(e+m+1))) a->Bnd .rat (.n m) c->Bnd .rat (.n (n*(e+m+1)+(e+m)+1)) (a+l.getD n 0*c):=λha hc=>AD ha (za hx hc)
  exact⟨s h.1 hh.1,s h.2.1 hh.2.1,s h.2.2.1 hh.2.2.1,s h.2.2.2 hh.2.2.2⟩
structure SpO (s:Spl) (t:Rat):Prop where
 kb:Bnd q9e q8x s.2.1
 tb:Bnd .rat q9i t
 d0:0<=s.1
 d6:s.1<=6
 ip:IpO s.2.1 s.1.toNat
 pl:s.2.2.length+s.1.toNat+1=s.2.1.length
 pb: ∀p∈s.2.2,Bnd jx (bF4 524288) p
abbrev bvs(s:Spl)(t:Rat):List Rat:=jC s.2.1 s.1 t
def evS(s:Spl)(t:Rat):F4:=if ivO s.2.1 t then(0,0,0,0)else hsN s.2.2 (bvs s t) (jG s.2.1 s.1 t-s.1.toNat) (bvs s t).length
theorem QP{s:Spl}{t:Rat}(h:SpO s t){n f:Nat}(hn:n<=7):Bnd jx (bF4 33554432) (hsN s.2.2 (bvs s t) f n):=by
 refine Es (Uq h.pb (OG (λv hv=>h.kb.2 v hv) h.tb h.d6) _ _) ?_;have:=q6r (4194304+524288+1) hn;omega
theorem Uj{s:Spl}{t:Rat}(h:SpO s t):Bnd jx (bF4 33554432) (evS s t):=by
 unfold evS;split
 .exact⟨qK _,qK _,qK _,qK _⟩
 .have:=Hz s.2.1 s.1 t
  have:=h.d6;exact QP h (show(jC s.2.1 s.1 t).length<=7 by omega)
theorem q3L{s:Spl}{t:Rat}(h:ivE s.2.1 t≠0):(0,0,0,0)=evS s t:=by
 unfold ivE at h;split at h
 .rename_i g;rw[evS,if_pos g]
 .exact absurd rfl h
theorem q3M{s:Spl}{t:Rat}(h: ¬ivE s.2.1 t≠0){i:Nat}{o:F4}(ho:o=hsN s.2.2 (bvs s t) (jG s.2.1 s.1 t-s.1.toNat) i)(hi:i=(jC s.2.1 s.1 t).length):o=evS s t:=by rw[evS,if_neg (D8 h),ho,hi]
theorem q49{k:List Rat}{t:Rat}(h:ivE k t≠0):7=ivE k t:=by
 unfold ivE at h⊢;split at h
 .rename_i g;rw[if_pos g]
 .exact absurd rfl h
theorem P0{k:List Rat}{t:Rat}{d:Int}(h:IpO k d.toNat)(hO: ¬ivO k t):d.toNat<=jG k d t/\jG k d t+d.toNat+1<k.length:=by
 have:=ip_r h hO;rw[HY h]at this;exact this
theorem AX:FI.OK ⟨167,[q7f,.rat],[(.p q9v (.p q8l (.s 1048576 q7p))),q9a],λz=>(λ(s:Int×List Rat×List (q9G))(t:Rat)=>[SpO s t]) z.1 z.2,λb z=>(λ(s:Int×List Rat×List (q9G))(t:Rat)=> .tup [.agg [.dt jx (bF4 33554432) (evS s t)],.one (.dt q91 (.n 7) (ivE s.2.1 t))]) z.1 z.2⟩ Pg:=mF Tryz.func167 [(37,.cI j8),(100,.cI qv),(216,.cI Ar)] (λ(s:Int×List Rat×List (q9G))(t:Rat) b hx hp=>q9 (qB (Uj (hp _ q5Q))) (q9 (q8 (I0 _ t) rfl) qr)) (λ(s:Int×List Rat×List (q9G))(t:Rat) hx hp=>by
 have hp0:SpO s t:=hp _ (q5Q)
 refine⟨.cond .nil<|.cond (.dead)<|.loop [.s 38 q97 q9v,.r 6 q83 q7h] (λ((i,o):Nat×q9G)=>o=hsN s.2.2 (jC s.2.1 s.1 t) (jG s.2.1 s.1 t-s.1.toNat) i/\i<=(jC s.2.1 s.1 t).length) (λ((i,o):Nat×q9G)=>(jC s.2.1 s.1 t).length-i) λ((i,o):Nat×q9G)=> .nil,kX (have hd0:=hp0.d0;have hd6:=hp0.d6;have hpl:=hp0.pl;I5 (hp0.kb:Bnd q9e q8x s.2.1) (hp0.tb:Bnd .rat q9i t) (?_:0<=s.1) (?_:s.1<=6) (hp0.ip:IpO s.2.1 s.1.toNat)<|Sp (ivE s.2.1 t≠0) (λh1=>q6K (q3L h1:(0,0,0,0)=evS s t) (q49 h1:7=ivE s.2.1 t)) λh2=>Sp (s.2.2.length<(jG s.2.1 s.1 t-s.1.toNat)+((jC s.2.1 s.1 t).length)) (λh3=>((by have hO:=D8 h2;have h1:=P0 hp0.ip hO;have h2:=IW (d:=s.1) hO;omega):False)) λh4=>have hO:=(D8 h2);have hiv:=(P0 hp0.ip hO);have hbl:=(IW (d:=s.1) hO:(jC s.2.1 s.1 t).length=s.1.toNat+1);I (⟨rfl,q6A _⟩:(0,0,0,0)=hsN s.2.2 (jC s.2.1 s.1 t) (jG s.2.1 s.1 t-s.1.toNat) 0/\0<=(jC s.2.1 s.1 t).length) λ(i:Nat)(o:q9G)(hb5:HB [.s 38 q97 q9v,.r 6 q83 q7h] (i,o))(hI:o=hsN s.2.2 (jC s.2.1 s.1 t) (jG s.2.1 s.1 t-s.1.toNat) i/\i<=(jC s.2.1 s.1 t).length)=>have hv8:=(show i<=8 from hb5.1);have hI1:=hI.2;Sp (i<(jC s.2.1 s.1 t).length) (λh6=>I (?_:i<(jC s.2.1 s.1 t).length)<|Id4 (?_:(jG s.2.1 s.1 t-s.1.toNat)+i<s.2.2.length)<|I2 ((show i+1<=8 by omega):Bnd q97 q9v (i+1)) ((by rw[hI.1];exact QP hp0 (show i+1<=7 by omega)):Bnd q83 q7h (o.1+(((jC s.2.1 s.1 t).getD i 0)*((s.2.2.getD ((jG s.2.1 s.1 t-s.1.toNat)+i) (0,(0,(0,0)))).1)),o.2.1+(((jC s.2.1 s.1 t).getD i 0)*(((s.2.2.getD ((jG s.2.1 s.1 t-s.1.toNat)+i) (0,(0,(0,0)))).2).1)),o.2.2.1+(((jC s.2.1 s.1 t).getD i 0)*((((s.2.2.getD ((jG s.2.1 s.1 t-s.1.toNat)+i) (0,(0,(0,0)))).2).2).1)),o.2.2.2+(((jC s.2.1 s.1 t).getD i 0)*((((s.2.2.getD ((jG s.2.1 s.1 t-s.1.toNat)+i) (0,(0,(0,0)))).2).2).2)))) (q6K (⟨by rw[hI.1];rfl,by omega⟩:(o.1+(((jC s.2.1 s.1 t).getD i 0)*((s.2.2.getD ((jG s.2.1 s.1 t-s.1.toNat)+i) (0,(0,(0,0)))).1)),o.2.1+(((jC s.2.1 s.1 t).getD i 0)*(((s.2.2.getD ((jG s.2.1 s.1 t-s.1.toNat)+i) (0,(0,(0,0)))).2).1)),o.2.2.1+(((jC s.2.1 s.1 t).getD i 0)*((((s.2.2.getD ((jG s.2.1 s.1 t-s.1.toNat)+i) (0,(0,(0,0)))).2).2).1)),o.2.2.2+(((jC s.2.1 s.1 t).getD i 0)*((((s.2.2.getD ((jG s.2.1 s.1 t-s.1.toNat)+i) (0,(0,(0,0)))).2).2).2)))=hsN s.2.2 (jC s.2.1 s.1 t) (jG s.2.1 s.1 t-s.1.toNat) (i+1)/\(i+1)<=(jC s.2.1 s.1 t).length) (?_:(jC s.2.1 s.1 t).length-(i+1)<(jC s.2.1 s.1 t).length-i))) λh7=>q6K (q3M h2 hI.1 (by omega):o=evS s t) (OY (D8 h2):0=ivE s.2.1 t))⟩<;>omega)
theorem GP(a w:Rat):a/w=((1:Int):Rat)/w*a:=by
 have e:((1:Int):Rat)=1:=rfl;rw[e,Rat.div_def,Rat.div_def,Rat.one_mul,Rat.mul_comm]
theorem fp_e(h:F4):(((h.1/h.2.2.2,h.2.1/h.2.2.2,h.2.2.1/h.2.2.2),h.2.2.2+0):j2)=jJ h:=by
 rw[GP h.1,GP h.2.1,GP h.2.2.1,Rat.add_zero];rfl
def spC(c:j7):Spl:=(c.1,c.2.1,c.2.2.map jN)
theorem map_s{ps:List j2}{i:Nat}(hi:i<ps.length){o:List F4}(h:o=(ps.take i).map jN):o++[jN (ps.getD i ((0,0,0),0))]=(ps.take (i+1)).map jN:=by
 rw[h,wn (d:=((0,0,0),0)) hi,List.map_append];rfl
theorem q3a{c:j7}{i:Nat}{o:List F4}(h:o=(c.2.2.take i).map jN)(hi: ¬i<c.2.2.length):(c.1,c.2.1,o)=spC c:=by
 rw[h,q5Z (by omega)];rfl
theorem q39{ps:List j2}{m:Nat}(h: ∀p∈ps,Bnd (.pr qV .rat) (.p (bV3 m) (.n m)) p): ∀q∈ps.map jN,Bnd jx (bF4 (2*m)) q:=by
 intro q hq;obtain⟨p,hp,rfl⟩:=q6T.1 hq;exact Es (Ck (h p hp)) (by simp only[Bd.mx];omega)
theorem S3{c:j7}{t:Rat}(h:EvC c t)(hi:IpO c.2.1 c.1.toNat):SpO (spC c) t:=
 ⟨h.kb,h.tb,h.d0,h.d6,hi,by show(c.2.2.map jN).length+_+1=_;rw[q5J];exact h.pl,λq hq=>Es (q39 h.pb q hq) (by omega)⟩
theorem Uk(c:j7)(t:Rat):evS (spC c) t=if ivO c.2.1 t then(0,0,0,0)else homV c t:=by
 show(if ivO c.2.1 t then((0,0,0,0):F4)else hsN (c.2.2.map jN) (jC c.2.1 c.1 t) (jG c.2.1 c.1 t-c.1.toNat) (jC c.2.1 c.1 t).length)=_;rw[QQ];rfl
theorem q55{c:j7}{b:Bd}(h:Bnd vj b c):Bnd jp (.p b.l (.p b.r.l (.s b.r.r.len (bF4 (2*b.r.r.e.mx))))) (spC c):=by
 have h3:=h.pr.2.pr.2;refine⟨h.pr.1,h.pr.2.pr.1,by show(c.2.2.map jN).length<=_;rw[q5J];exact h3.sl.1,λq hq=>?_⟩;obtain⟨p,hp,rfl⟩:=q6T.1 hq;exact Ck (h3.slm' _ hp)
theorem q3P{c:j7}{t:Rat}(h: ¬ivE c.2.1 t≠0):(jJ (evS (spC c) t)).1=evV c t:=by
 rw[Uk,if_neg (D8 h),q3O h]
theorem Dj:FI.OK ⟨168,[q83],[(.p q8O (.p q8O (.p q8O q8O)))],λ_=>[],λb z=>(λ(h:q9G)=>oA (.pr qV .rat) (.p (bV3 (2*(b0 b).mx+2)) (.n (2*(b0 b).mx+2))) (jJ h)) z⟩ Pg:=mF Tryz.func168 [(80,.cI wW),(100,.cI qv)] (λ(h:q9G) b hx hp=>qB (DN (Bnds.h1 hx))) (λ(h:q9G) hx hp=>by
 refine⟨.nil,kX ((fp_e h:((h.1/h.2.2.2,h.2.1/h.2.2.2,h.2.2.1/h.2.2.2),h.2.2.2+0)=jJ h))⟩)
abbrev q2A:FO:=⟨172,[q9e],[q8c],λ_=>[],λk b z=>(λ(q:List Rat)=> .c (.one (.gs k (q.length) 3 ((b0 b).len)))) z,λb z=>(λ(q:List Rat)=> .gro .rat ((b0 b).e) (q)) z⟩
theorem q2B:q2A.OK Pg:=mkO hmix 23 90004 Tryz.func172 rfl rfl (by decide) [(100,.cI qv)] (λ_=>rfl) (λ_ _ _=>rfl) (λ_ _=>rfl) (λ_ _ _=>⟨rfl,rfl⟩) (λ(q:List Rat) k b hx hp=>⟨q8 (Bnds.h1 hx).sl.1 rfl,(Bnds.h1 hx).sl.2⟩) (λ(q:List Rat) hx hp=>by
 have hl0:q.length<=1048576:=hx.1
 refine bodyO.g (.h 1 2 (.mk (.gro .rat q8F))<|.loop [.s 11 q97 q8Y,.g 3 90004 .rat q8F 1048576] (λ((i,o):Nat×List Rat)=>o=q.take i/\i<=q.length) (λ((i,o):Nat×List Rat)=>q.length-i) λ((i,o):Nat×List Rat)=> .cond (.h 5 4 (.mk (.im .rat q8F)) .nil) .nil) (kX<|I2 (rfl:0=([]:List Rat).length) (⟨rfl,q6A _⟩:([]:List Rat)=q.take 0/\0<=q.length) λ(i:Nat)(o:List Rat)(hb1:HB [.s 11 q97 q8Y,.g 3 90004 .rat q8F 1048576] (i,o))(hI:o=q.take i/\i<=q.length)=>have hv4:=(show i<=1048576 from hb1.1);have hv5:=(show o.length<=1048576 from hb1.2.1);have hIi:=hI.2;have hol:=(show o.length=i from by rw[hI.1,q5L];omega);Sp (i<q.length) (λh2=>I5 (?_:i<q.length) (?_:o.length=o.length) (qy:Bnd q97 q8Y (i+1)) (Lq:o.length+[(q.getD i 0)+0].length=(o++[(q.getD i 0)+0]).length) (Lq:o.length+[(q.getD i 0)+0].length<=1048576) (q6K (⟨by rw[hI.1,Rat.add_zero,wn (d:=0) (by omega)],by omega⟩:(o++[(q.getD i 0)+0])=q.take (i+1)/\(i+1)<=q.length) (?_:q.length-(i+1)<q.length-i))) λh3=>q6K (by rw[hI.1,q5Z (by omega)]:o=q) ((?_:o.length=q.length)))<;>omega)
noncomputable abbrev pcop_c:CtrO Pg:=FO.c q2B
theorem Tn:FI.OK ⟨173,[q7e],[(.p q9v (.p q8c q7g))],λz=>(λ(c:q9A)=>[qF c.2.1 c.1=0,0<=c.1,c.2.2.length+c.1.toNat+1=c.2.1.length]) z,λb z=>oO .bool .u true⟩ Pg:=mF Tryz.func173 [(72,.cI F8),(132,.cI jc)] (λ(c:q9A) b hx hp=>q8 trivial rfl) (λ(c:q9A) hx hp=>by
 have hp0:qF c.2.1 c.1=0:=hp _ (q5Q);have hp1:0<=c.1:=hp _ (q5P _ (q5Q));have hp2:c.2.2.length+c.1.toNat+1=c.2.1.length:=hp _ (q5P _ (q5P _ (q5Q)))
 refine⟨.cond .nil (.dead),kX (Sp (qF c.2.1 c.1=0) (λh1=>(decide_eq_true (by omega):decide (((c.2.2.length:Nat):Int)=((c.2.1.length:Nat):Int) -c.1-1)=true)) λh2=>(absurd hp0 h2:False))⟩)
theorem q2z:FI.OK ⟨174,[q7e],[q6Y],λ_=>[],λb z=>(λ(c:q9A)=>oA jp (.p (b0 b).l (.p (b0 b).r.l (.s (b0 b).r.r.len (bF4 (2*(b0 b).r.r.e.mx))))) (spC c)) z⟩ Pg:=mF Tryz.func174 [(165,.cI ID)] (λ(c:q9A) b hx hp=>qB (q55 (Bnds.h1 hx))) (λ(c:q9A) hx hp=>by
 have hcl:c.2.2.length<=1048576:=hx.2.2.1
 refine⟨.loop [.s 14 q97 q8Y,.ex (gboX 3 90001 [(.dt q91 q9v c.1),(.dt q9e q8l c.2.1)] [] q83 q7p 1048576)] (λ((i,l):Nat×List (q9G))=>l=(c.2.2.take i).map jN/\i<=c.2.2.length) (λ((i,l):Nat×List (q9G))=>c.2.2.length-i) λ((i,l):Nat×List (q9G))=> .cond (.h 5 1 (.ext wu)<|.h 5 4 (.mk (.im q83 q7p)) .nil)<|.pre 7 (.frz 90001 true []) .nil,kX (I4 (rfl:([(.dt q91 q9v c.1),(.dt q9e q8l c.2.1)]:List WA)=[(.dt q91 q9v c.1),(.dt q9e q8l c.2.1)]) (rfl:([]:List WA)=[]) (rfl:0=([]:List (q9G)).length) (⟨rfl,q6A _⟩:([]:List (q9G))=(c.2.2.take 0).map jN/\0<=c.2.2.length) λ(i:Nat)(l:List (q9G))(hb1:HB [.s 14 q97 q8Y,.ex (gboX 3 90001 [(.dt q91 q9v c.1),(.dt q9e q8l c.2.1)] [] q83 q7p 1048576)] (i,l))(hI:l=(c.2.2.take i).map jN/\i<=c.2.2.length)=>have hv4:=(show i<=1048576 from hb1.1);have hv5:=(show l.length<=1048576 from hb1.2.1.1);have hIi:=hI.2;have hll:=(show l.length=i by rw[hI.1,q5J,q5L];omega);Sp (i<c.2.2.length) (λh2=>I6 (?_:i<c.2.2.length) (?_:l.length=l.length) (qy:Bnd q97 q8Y (i+1)) (rfl:([(.dt q91 q9v c.1),(.dt q9e q8l c.2.1)]:List WA)=[(.dt q91 q9v c.1),(.dt q9e q8l c.2.1)]) (rfl:([]:List WA)=[]) (Lq:l.length+[zk (c.2.2.getD i q9J)].length=(l++[zk (c.2.2.getD i q9J)]).length)<|I (Lq:l.length+[zk (c.2.2.getD i q9J)].length<=1048576) (q6K (⟨map_s (by omega) hI.1,by omega⟩:l++[zk (c.2.2.getD i q9J)]=(c.2.2.take (i+1)).map jN/\(i+1)<=c.2.2.length) (?_:c.2.2.length-(i+1)<c.2.2.length-i))) λh3=>I (?_:l.length=l.length) ((q3a hI.1 h3:(c.1,c.2.1,l)=spC c)))⟩<;>omega)
theorem Tl:FI.OK ⟨109,[q7e,.rat],[q6Y,q9a],λz=>(λ(c:q9A)(t:Rat)=>[EvC c t,IpO c.2.1 c.1.toNat,qF c.2.1 c.1=0]) z.1 z.2,λb z=>(λ(c:q9A)(t:Rat)=> .tup [.agg [.dt qV (bV3 67108868) (evV c t)],.one (.dt q91 (.n 7) (ivE c.2.1 t))]) z.1 z.2⟩ Pg:=mF Tryz.func109 [(167,.cI AX),(168,.cI Dj),(173,.cI Tn),(174,.cI q2z)] (λ(c:q9A)(t:Rat) b hx hp=>q9 (qB (Ul (hp _ (q5Q)))) (q9 (q8 (I0 _ t) rfl) qr)) (λ(c:q9A)(t:Rat) hx hp=>by
 have hp0:EvC c t:=hp _ (q5Q);have hp1:IpO c.2.1 c.1.toNat:=hp _ (q5P _ (q5Q));have hp2:qF c.2.1 c.1=0:=hp _ (q5P _ (q5P _ (q5Q)))
 refine⟨.cond (.dead) .nil,kX (I3 (hp2:qF c.2.1 c.1=0) (hp0.d0:0<=c.1) (hp0.pl:c.2.2.length+c.1.toNat+1=c.2.1.length)<|Sp ((!true)=true) (λh1=>(absurd h1 (by decide):False)) λh2=>I (S3 hp0 hp1:SpO (spC c) t)<|Sp (ivE (spC c).2.1 t≠0) (λh3=>q6K (q3N (c:=c) h3:(0,0,0)=evV c t) (rfl:ivE (spC c).2.1 t=ivE c.2.1 t)) λh4=>q6K (q3P h4:(jJ (evS (spC c) t)).1=evV c t) (OY (D8 h4):0=ivE c.2.1 t))⟩)
abbrev Net:Type:=List (List j2)
def colR(r:Net)(j:Nat):Nat->List j2
 |0=>[]
 |n+1=>colR r j n++[(r.getD n []).getD j q9J]
def trN(r:Net):Nat->Net
 |0=>[]
 |n+1=>trN r n++[colR r n r.length]
theorem CB(r:Net)(j:Nat): ∀n,(colR r j n).length=n
 |0=>rfl
 |n+1=>by simp only[colR,q5G,CB r j n,q5H,q5K]
theorem E4(r:Net): ∀n,(trN r n).length=n
 |0=>rfl
 |n+1=>by simp only[trN,q5G,E4 r n,q5H,q5K]
theorem q0Z{r:Net}{j i:Nat}{l:List j2}(h:l=colR r j i):l++[(r.getD i []).getD j q9J]=colR r j (i+1):=by rw[h];rfl
theorem q5e{r:Net}{j i:Nat}{l:Net}{c:List j2}(h:l=trN r j)(hc:c=colR r j i)(hi: ¬i<r.length)(hl:i<=r.length):l++[c]=trN r (j+1):=by
 rw[h,hc,show i=r.length by omega];rfl
theorem Ny(s:qu)(j:Nat): ∀n,colR s.2.2.2.2 j n=colN s j n
 |0=>rfl
 |n+1=>by rw[colR,colN,Ny s j n];rfl
theorem LI{r:Net}{b:Bd}(h: ∀x∈r,∀p∈x,Bnd qi b p)(hz:Bnd qi b q9J)(j:Nat): ∀n,∀p∈colR r j n,Bnd qi b p
 |0,p,hp=>by cases hp
 |n+1,p,hp=>by
  simp only[colR,q5N,q5U]at hp;rcases hp with hp|hp
  .exact LI h hz j n p hp
  .rw[hp,q5y,q5y]
   cases e:r[n]? with
   |none=>exact hz
   |some x=>
    show Bnd qi b (x[j]?.getD _)
    cases e2:x[j]? with
    |none=>exact hz
    |some y=>exact h x (q5S e) y (q5S e2)
theorem V9{r:Net}{b:Bd}(h: ∀x∈r,∀p∈x,Bnd qi b p)(hz:Bnd qi b q9J): ∀n,∀x∈trN r n,x.length=r.length/\ ∀p∈x,Bnd qi b p
 |0,x,hx=>by cases hx
 |n+1,x,hx=>by
  simp only[trN,q5N,q5U]at hx;rcases hx with hx|hx
  .exact V9 h hz n x hx
  .rw[hx];exact⟨CB _ _ _,LI h hz n _⟩
theorem q5f{r:Net}(h:Bnd (.sl (.sl qi)) (.s 16 (.s 16 (j5 12))) r)(h0:0<r.length):Bnd (.sl (.sl qi)) (.s 16 (.s 16 (j5 12))) (trN r (r.getD 0 []).length):=by
 have hz:Bnd qi (j5 12) q9J:=⟨⟨qK _,qK _,qK _⟩,qK _⟩;have hb:=V9 (λx hx=>(h.2 x hx).2) hz (r.getD 0 []).length;exact⟨by rw[E4];exact(h.2 _ (by rw[z6 h0];exact q6M h0)).1,λx hx=>⟨by rw[(hb x hx).1];exact h.1,(hb x hx).2⟩⟩
theorem Iu:FI.OK ⟨208,[q7I],[q7u],λz=>(λ(r:q9B)=>[Bnd (.sl (.sl qi)) (.s 16 (.s 16 (j5 12))) r,0<r.length,∀i,i<r.length->(r.getD i []).length=(r.getD 0 []).length]) z,λb z=>(λ(r:q9B)=>oO (.sl (.sl qi)) (.s 16 (.s 16 (j5 12))) (trN r (r.getD 0 []).length)) z⟩ Pg:=mF Tryz.func208 [] (λ(r:q9B) b hx hp=>q8 (q5f (hp _ (q5Q)) (hp _ (q5P _ (q5Q)))) rfl) (λ(r:q9B) hx hp=>by
 have hl0:r.length<=16:=hx.1;have hp1:0<r.length:=hp _ (q5P _ (q5Q));have hp2: ∀i,i<r.length->(r.getD i []).length=(r.getD 0 []).length:=hp _ (q5P _ (q5P _ (q5Q)));have hxl:r.length<=16:=hx.1
 refine⟨.cond (.dead)<|.loop [.s 14 q97 q8Y,.g 3 90002 q7N q7E 1048576] (λ((j,l):Nat×q9B)=>l=trN r j/\j<=(r.getD 0 []).length) (λ((j,l):Nat×q9B)=>(r.getD 0 []).length-j) λ((j,l):Nat×q9B)=> .cond (.loop [.s 19 q97 q8Y,.g 5 90001 q82 q7L 16] (λ((i,c):Nat×q9C)=>c=colR r j i/\i<=r.length) (λ((i,c):Nat×q9C)=>r.length-i) λ((i,c):Nat×q9C)=> .cond (.h 11 8 (.mk (.im q82 q7L)) .nil)<|.pre 13 (.frz 90001 true [5])<|.h 13 2 (.mk (.im q7N q7E)) .nil)<|.pre 15 (.frz 90002 true [3]) .nil,kX (Sp (r.length=0) (λh1=>(?_:False)) λh2=>I3 (?_:0<r.length) (rfl:0=([]:q9B).length) (⟨rfl,q6A _⟩:([]:q9B)=trN r 0/\0<=(r.getD 0 []).length) λ(j:Nat)(l:q9B)(hb3:HB [.s 14 q97 q8Y,.g 3 90002 q7N q7E 1048576] (j,l))(hI:l=trN r j/\j<=(r.getD 0 []).length)=>have hv11:=(show j<=1048576 from hb3.1);have hv12:=(show l.length<=1048576 from hb3.2.1);have hq1:=(show(r.getD 0 []).length<=16 from(hx.2 _ (by rw[z6 hp1];exact q6M hp1)).1);have hl0:=(show l.length=j by rw[hI.1,E4]);Sp (j<(r.getD 0 []).length) (λh4=>I2 (rfl:0=([]:q9C).length) (⟨rfl,q6A _⟩:([]:q9C)=colR r j 0/\0<=r.length) λ(i:Nat)(c:q9C)(hb5:HB [.s 19 q97 q8Y,.g 5 90001 q82 q7L 16] (i,c))(hJ:c=colR r j i/\i<=r.length)=>have hv8:=(show i<=1048576 from hb5.1);have hv9:=(show c.length<=16 from hb5.2.1);have hr0:=(show c.length=i by rw[hJ.1,CB]);have hrw:=(show i<r.length->(r.getD i []).length=(r.getD 0 []).length from hp2 i);Sp (i<r.length) (λh6=>I6 (?_:i<r.length) (Lq:j<(r.getD i []).length) (?_:c.length=c.length) (qy:Bnd q97 q8Y (i+1)) (Lq:c.length+[(r.getD i []).getD j q9J].length=(c++[(r.getD i []).getD j q9J]).length) (Lq:c.length+[(r.getD i []).getD j q9J].length<=16) (q6K (⟨q0Z hJ.1,by omega⟩:c++[(r.getD i []).getD j q9J]=colR r j (i+1)/\(i+1)<=r.length) (?_:r.length-(i+1)<r.length-i))) λh7=>I5 (?_:c.length=c.length) (?_:l.length=l.length) (qy:Bnd q97 q8Y (j+1)) (Lq:l.length+[c].length=(l++[c]).length) (Lq:l.length+[c].length<=1048576) (q6K (⟨q5e hI.1 hJ.1 h7 hJ.2,by omega⟩:l++[c]=trN r (j+1)/\(j+1)<=(r.getD 0 []).length) (?_:(r.getD 0 []).length-(j+1)<(r.getD 0 []).length-j))) λh10=>I (?_:l.length=l.length) ((by rw[hI.1,show j=(r.getD 0 []).length by omega]:l=trN r (r.getD 0 []).length)))⟩<;>omega)
def auC(s:qu)(j:Nat):Spl:=(s.1,s.2.2.1,(colR s.2.2.2.2 j s.2.2.2.2.length).map jN)
def auN(s:qu):Nat->List Spl
 |0=>[]
 |n+1=>auN s n++[auC s n]
theorem Cb(s:qu): ∀n,(auN s n).length=n
 |0=>rfl
 |n+1=>by simp only[auN,q5G,Cb s n,q5H,q5K]
theorem Ew{α:Type}{l:List α}{x d:α}{n i:Nat}(hl:l.length=n)(hi:i<n+1):(l++[x]).getD i d=if i<n then l.getD i d else x:=by
 rw[q5y,q5y];split
 .rw[List.getElem?_append_left (by omega)]
 .rw[List.getElem?_append_right (by omega),show i-l.length=0 by omega];rfl
theorem JC(r:Net): ∀n i,i<n->(trN r n).getD i []=colR r i r.length
 |n+1,i,h=>by
  rw[trN,Ew (E4 r n) h];split
  .exact JC r n i (by assumption)
  .rw[show i=n by omega]
theorem DE(s:qu): ∀n i d,i<n->(auN s n).getD i d=auC s i
 |n+1,i,d,h=>by
  rw[auN,Ew (Cb s n) h];split
  .exact DE s n i d (by assumption)
  .rw[show i=n by omega]
theorem q3o{s:qu}{w i j:Nat}{l:List Spl}{o:List F4}(h:l=auN s i)(hi:i<w)(ho:o=(((trN s.2.2.2.2 w).getD i []).take j).map jN)(hj: ¬j<((trN s.2.2.2.2 w).getD i []).length):l++[(s.1,s.2.2.1,o)]=auN s (i+1):=by
 rw[ho,q5Z (by omega),JC _ w i hi,h];rfl
abbrev bAu:Bd:= .p q9u (.p q8P (.s 16 (bF4 24)))
theorem q3n{s:qu}(h:Bnd qH bSfl s)(i:Nat):Bnd jp bAu (auC s i):=by
 have hz:Bnd qi (j5 12) q9J:=⟨⟨qK _,qK _,qK _⟩,qK _⟩;refine⟨h.1,h.2.2.1,by show((colR _ _ _).map jN).length<=16;rw[q5J,CB];exact h.2.2.2.2.1,?_⟩;intro q hq;obtain⟨p,hp,rfl⟩:=q6T.1 hq;exact Es (Ck (LI (λx hx=>(h.2.2.2.2.2 x hx).2) hz _ _ p hp)) (by simp only[Bd.mx];omega)
theorem q3p{s:qu}(h:Bnd qH bSfl s)(n:Nat)(hn:n<=16):Bnd (.sl jp) (.s 16 bAu) (auN s n):=by
 refine⟨by rw[Cb];exact hn,λx hx=>?_⟩;obtain⟨i,hi,rfl⟩:=List.mem_iff_getElem.1 hx;have e:(auN s n)[i]=(auN s n).getD i (0,[],[]):=(z6 hi).symm;rw[e,DE s n i _ (by rw[Cb]at hi;exact hi)];exact q3n h i
theorem Jp{s:qu}(h:Bnd qH bSfl s):(s.2.2.2.2.getD 0 []).length<=16:=(CM h 0).1
theorem Ip:FI.OK ⟨207,[q1X],[Y6],λz=>(λ(s:q9y)=>[Bnd qH bSfl s,0<s.2.2.2.2.length,∀i,i<s.2.2.2.2.length->(j4 s i).length=(j4 s 0).length]) z,λb z=>(λ(s:q9y)=>oO (.sl jp) (.s 16 bAu) (auN s (s.2.2.2.2.getD 0 []).length)) z⟩ Pg:=mF Tryz.func207 [(165,.cI ID),(208,.cI Iu)] (λ(s:q9y) b hx hp=>q8 (q3p (hp _ (q5Q)) _ (Jp (hp _ (q5Q)))) rfl) (λ(s:q9y) hx hp=>by
 have hp0:Bnd qH bSfl s:=hp _ (q5Q);have hp1:0<s.2.2.2.2.length:=hp _ (q5P _ (q5Q));have hp2: ∀i,i<s.2.2.2.2.length->(j4 s i).length=(j4 s 0).length:=hp _ (q5P _ (q5P _ (q5Q)));have hxl:s.2.2.2.2.length<=16:=hx.2.2.2.2.1
 refine⟨.loop [.s 13 q97 q8Y,.g 3 90002 q7f q76 1048576] (λ((i,l):Nat×List (Int×List Rat×List (q9G)))=>l=auN s i/\i<=(trN s.2.2.2.2 (s.2.2.2.2.getD 0 []).length).length) (λ((i,l):Nat×List (Int×List Rat×List (q9G)))=>(trN s.2.2.2.2 (s.2.2.2.2.getD 0 []).length).length-i) λ((i,l):Nat×List (Int×List Rat×List (q9G)))=> .cond (.loop [.s 24 q97 q8Y,.ex (gboX 6 90001 [(.dt q91 q9u s.1),(.dt q9e q8P s.2.2.1)] [] q83 q7K 16)] (λ((j,o):Nat×List (q9G))=>o=(((trN s.2.2.2.2 (s.2.2.2.2.getD 0 []).length).getD i []).take j).map jN/\j<=((trN s.2.2.2.2 (s.2.2.2.2.getD 0 []).length).getD i []).length) (λ((j,o):Nat×List (q9G))=>((trN s.2.2.2.2 (s.2.2.2.2.getD 0 []).length).getD i []).length-j) λ((j,o):Nat×List (q9G))=> .cond (.h 9 1 (.ext wu)<|.h 9 4 (.mk (.im q83 q7K)) .nil)<|.pre 11 (.frz 90001 true [])<|.h 11 2 (.mk (.im q7f q76)) .nil)<|.pre 13 (.frz 90002 true [3]) .nil,kX (I5 (hp0.2.2.2.2:Bnd (.sl (.sl qi)) (.s 16 (.s 16 (j5 12))) s.2.2.2.2) (hp1:0<s.2.2.2.2.length) (hp2: ∀i,i<s.2.2.2.2.length->(s.2.2.2.2.getD i []).length=(s.2.2.2.2.getD 0 []).length) (rfl:0=([]:List (Int×List Rat×List (q9G))).length) (⟨rfl,q6A _⟩:([]:List (Int×List Rat×List (q9G)))=auN s 0/\0<=(trN s.2.2.2.2 (s.2.2.2.2.getD 0 []).length).length) λ(i:Nat)(l:List (Int×List Rat×List (q9G)))(hb1:HB [.s 13 q97 q8Y,.g 3 90002 q7f q76 1048576] (i,l))(hI:l=auN s i/\i<=(trN s.2.2.2.2 (s.2.2.2.2.getD 0 []).length).length)=>have hv9:=(show i<=1048576 from hb1.1);have hv10:=(show l.length<=1048576 from hb1.2.1);have htl:=(E4 s.2.2.2.2 (s.2.2.2.2.getD 0 []).length);have hl0:=(show l.length=i by rw[hI.1,Cb]);have hw0:=(Jp hp0);have hcl:=(show i<(s.2.2.2.2.getD 0 []).length->((trN s.2.2.2.2 (s.2.2.2.2.getD 0 []).length).getD i []).length=s.2.2.2.2.length from λh=>by rw[JC _ _ _ h,CB]);Sp (i<(trN s.2.2.2.2 (s.2.2.2.2.getD 0 []).length).length) (λh2=>I5 (Lq:i<(trN s.2.2.2.2 (s.2.2.2.2.getD 0 []).length).length) (rfl:([(.dt q91 q9u s.1),(.dt q9e q8P s.2.2.1)]:List WA)=[(.dt q91 q9u s.1),(.dt q9e q8P s.2.2.1)]) (rfl:([]:List WA)=[]) (rfl:0=([]:List (q9G)).length) (⟨rfl,q6A _⟩:([]:List (q9G))=(((trN s.2.2.2.2 (s.2.2.2.2.getD 0 []).length).getD i []).take 0).map jN/\0<=((trN s.2.2.2.2 (s.2.2.2.2.getD 0 []).length).getD i []).length) λ(j:Nat)(o:List (q9G))(hb3:HB [.s 24 q97 q8Y,.ex (gboX 6 90001 [(.dt q91 q9u s.1),(.dt q9e q8P s.2.2.1)] [] q83 q7K 16)] (j,o))(hJ:o=(((trN s.2.2.2.2 (s.2.2.2.2.getD 0 []).length).getD i []).take j).map jN/\j<=((trN s.2.2.2.2 (s.2.2.2.2.getD 0 []).length).getD i []).length)=>have hv6:=(show j<=1048576 from hb3.1);have hv7:=(show o.length<=16 from hb3.2.1.1);have hJi:=hJ.2;have hol:=(show o.length=j by rw[hJ.1,q5J,q5L];omega);Sp (j<((trN s.2.2.2.2 (s.2.2.2.2.getD 0 []).length).getD i []).length) (λh4=>I6 (Lq:j<((trN s.2.2.2.2 (s.2.2.2.2.getD 0 []).length).getD i []).length) (?_:o.length=o.length) (qy:Bnd q97 q8Y (j+1)) (rfl:([(.dt q91 q9u s.1),(.dt q9e q8P s.2.2.1)]:List WA)=[(.dt q91 q9u s.1),(.dt q9e q8P s.2.2.1)]) (rfl:([]:List WA)=[]) (Lq:o.length+[zk (((trN s.2.2.2.2 (s.2.2.2.2.getD 0 []).length).getD i []).getD j q9J)].length=(o++[zk (((trN s.2.2.2.2 (s.2.2.2.2.getD 0 []).length).getD i []).getD j q9J)]).length)<|I (Lq:o.length+[zk (((trN s.2.2.2.2 (s.2.2.2.2.getD 0 []).length).getD i []).getD j q9J)].length<=16) (q6K (⟨map_s (by omega) hJ.1,by omega⟩:o++[zk (((trN s.2.2.2.2 (s.2.2.2.2.getD 0 []).length).getD i []).getD j q9J)]=(((trN s.2.2.2.2 (s.2.2.2.2.getD 0 []).length).getD i []).take (j+1)).map jN/\(j+1)<=((trN s.2.2.2.2 (s.2.2.2.2.getD 0 []).length).getD i []).length) (?_:((trN s.2.2.2.2 (s.2.2.2.2.getD 0 []).length).getD i []).length-(j+1)<((trN s.2.2.2.2 (s.2.2.2.2.getD 0 []).length).getD i []).length-j))) λh5=>I5 (?_:o.length=o.length) (?_:l.length=l.length) (qy:Bnd q97 q8Y (i+1)) (Lq:l.length+[(s.1,s.2.2.1,o)].length=(l++[(s.1,s.2.2.1,o)]).length) (Lq:l.length+[(s.1,s.2.2.1,o)].length<=1048576) (q6K (⟨q3o hI.1 (by omega) hJ.1 h5,by omega⟩:l++[(s.1,s.2.2.1,o)]=auN s (i+1)/\(i+1)<=(trN s.2.2.2.2 (s.2.2.2.2.getD 0 []).length).length) (?_:(trN s.2.2.2.2 (s.2.2.2.2.getD 0 []).length).length-(i+1)<(trN s.2.2.2.2 (s.2.2.2.2.getD 0 []).length).length-i))) λh8=>I (?_:l.length=l.length) ((by rw[hI.1,show i=(s.2.2.2.2.getD 0 []).length by omega]:l=auN s (s.2.2.2.2.getD 0 []).length)))⟩<;>omega)
def isoH(s:qu)(t:Rat):Nat->List F4
 |0=>[]
 |n+1=>isoH s t n++[homV (rowC (qD s) n) t]
theorem CF(s:qu)(t:Rat): ∀n,(isoH s t n).length=n
 |0=>rfl
 |n+1=>by simp only[isoH,q5G,CF s t n,q5H,q5K]
theorem Jz(s:qu): ∀n i,i<n->(swN s n).getD i []=colN s i s.2.2.2.2.length
 |n+1,i,h=>by
  rw[swN,Ew (Bt s n) h];split
  .exact Jz s n i (by assumption)
  .rw[show i=n by omega]
theorem Nm{s:qu}{i:Nat}(h:i<(j4 s 0).length):auC s i=spC (rowC (qD s) i):=by
 have e:j4 (qD s) i=colN s i s.2.2.2.2.length:=by
  show(swN s (j4 s 0).length).getD i []=_;exact Jz s _ i h
 show(s.1,s.2.2.1,(colR s.2.2.2.2 i s.2.2.2.2.length).map jN)=((qD s).2.1,(qD s).2.2.2.1,(j4 (qD s) i).map jN);rw[e,Ny];rfl
theorem NC{s:qu}{t:Rat}{i:Nat}(hO: ¬ivO s.2.2.1 t)(h:i<(j4 s 0).length):evS (auC s i) t=homV (rowC (qD s) i) t:=by
 rw[Nm h,Uk,if_neg (show¬ivO (rowC (qD s) i).2.1 t from hO)]
structure IsP (s:qu) (t:Rat):Prop where
 sb:Bnd qH bSfl s
 r0:0<s.2.2.2.2.length
 rc: ∀i,i<s.2.2.2.2.length->(j4 s i).length=(j4 s 0).length
 ku:qF s.2.2.1 s.1=0
 kv:qF s.2.2.2.1 s.2.1=0
 rs:rcS s=true
 ip:IpO s.2.2.1 s.1.toNat
 O: ¬ivO s.2.2.1 t
 iso:IsO (qD s) t
theorem JB(s:qu):(qD s).2.2.2.2.length=(j4 s 0).length:=Bt s _
theorem IsP.sp{s:qu}{t:Rat}(h:IsP s t){i:Nat}(hi:i<(j4 s 0).length):SpO (auC s i) t:=by
 rw[Nm hi];exact S3 (h.iso.ev i (by rw[JB];exact hi)) h.ip
theorem q1F{s:qu}{t:Rat}{n i:Nat}{l:List F4}(h:l=isoH s t i)(hO: ¬ivO s.2.2.1 t)(hi:i<(j4 s 0).length)(hn:(j4 s 0).length=n):l++[evS ((auN s n).getD i (0,[],[])) t]=isoH s t (i+1):=by
 rw[DE s n i _ (by omega),NC hO hi,h];rfl
theorem QW(s:qu)(t:Rat): ∀n,(isoH s t n).map jJ=isoP (qD s) t n
 |0=>rfl
 |n+1=>by rw[isoH,List.map_append,QW s t n];rfl
def jQ(s:qu)(t:Rat):Spl:=(s.2.1,s.2.2.2.1,isoH s t (j4 s 0).length)
theorem OZ{k:List Rat}{t:Rat}(h: ¬ivO k t):ivE k t=0:=by rw[ivE,if_neg h]
theorem q1G{s:qu}{t:Rat}(h: ¬ivO s.2.2.1 t):(s.2.1,s.2.2.2.1,(isoH s t (j4 s 0).length).map jJ)=(isoV (qD s) t).1:=by
 unfold isoV;rw[if_neg (show¬ivE (qD s).2.2.2.1 t≠0 from λg=>g (OZ h)),QW,JB];rfl
abbrev bIsS:Bd:= .p q9u (.p q8P (.s 16 (bF4 33554432)))
theorem QV{s:qu}{t:Rat}(h:IsP s t): ∀n,n<=(j4 s 0).length-> ∀p∈isoH s t n,Bnd jx (bF4 33554432) p
 |0,_,p,hp=>by cases hp
 |n+1,hn,p,hp=>by
  simp only[isoH,q5N,q5U]at hp;rcases hp with hp|hp
  .exact QV h n (by omega) p hp
  .rw[hp,<-NC h.O (by omega)];exact Uj (h.sp (by omega))
theorem QX{s:qu}{t:Rat}(h:IsP s t):Bnd jp bIsS (jQ s t):=
 ⟨h.sb.2.1,h.sb.2.2.2.1,by show(isoH _ _ _).length<=16;rw[CF];exact(CM h.sb 0).1,QV h _ (q6d _)⟩
theorem q46{s:qu}{t:Rat}(h:IsO s t):Bnd vj bIso (isoV s t).1:=by
 unfold isoV;split
 .exact⟨(by decide:Int.natAbs 0<=6),⟨q6A _,λx hx=>by cases hx⟩,q6A _,λx hx=>by cases hx⟩
 .refine⟨h.sb.1,h.sb.2.2.1,?_,LZ h _ (q6d _)⟩
  show(isoP s t s.2.2.2.2.length).length<=16;rw[GT];exact h.sb.2.2.2.2.1
theorem LY(s:qu)(t:Rat): ∀n i d,i<n->(isoH s t n).getD i d=homV (rowC (qD s) i) t
 |n+1,i,d,h=>by
  rw[isoH,Ew (CF s t n) h];split
  .exact LY s t n i d (by assumption)
  .rw[show i=n by omega]
theorem X0{s:qu}{t:Rat}(h:IsP s t){i:Nat}(hi:i<(jQ s t).2.2.length):Bnd qi (j5 200000) (jJ ((jQ s t).2.2.getD i (0,0,0,0))):=by
 have e:(jQ s t).2.2.length=(j4 s 0).length:=CF s t _;show Bnd qi (j5 200000) (jJ ((isoH s t (j4 s 0).length).getD i (0,0,0,0)));rw[LY s t _ i _ (by omega)];exact h.iso.pb i (by rw[JB];omega)
theorem map_d{ps:List F4}{i:Nat}(hi:i<ps.length){o:List j2}(h:o=(ps.take i).map jJ):o++[jJ (ps.getD i (0,0,0,0))]=(ps.take (i+1)).map jJ:=by
 rw[h,wn (d:=(0,0,0,0)) hi,List.map_append];rfl
theorem q1H{s:qu}{t:Rat}(h:IsP s t){i:Nat}{l:List j2}(hl:l=((jQ s t).2.2.take i).map jJ)(hi: ¬i<(jQ s t).2.2.length):((jQ s t).1,(jQ s t).2.1,l)=(isoV (qD s) t).1:=by
 rw[hl,q5Z (by omega)];exact q1G h.O
theorem It:FI.OK ⟨158,[q1X],[Y6],λz=>(λ(s:q9y)=>[qF s.2.2.1 s.1=0,qF s.2.2.2.1 s.2.1=0,rcS s=true]) z,λb z=>oO .bool .u true⟩ Pg:=mF Tryz.func158 [(72,.cI F8),(73,.cI Od)] (λ(s:q9y) b hx hp=>q8 trivial rfl) (λ(s:q9y) hx hp=>by
 have hp0:qF s.2.2.1 s.1=0:=hp _ (q5Q);have hp1:qF s.2.2.2.1 s.2.1=0:=hp _ (q5P _ (q5Q));have hp2:rcS s=true:=hp _ (q5P _ (q5P _ (q5Q)))
 refine⟨.cond (.cond .nil (.dead)) (.dead),kX (Sp (qF s.2.2.1 s.1=0) (λh1=>Sp (qF s.2.2.2.1 s.2.1=0) (λh2=>(hp2:rcS s=true)) λh3=>(absurd hp1 h3:False)) λh4=>(absurd hp0 h4:False))⟩)
theorem Fh:FI.OK ⟨166,[q1X,.rat],[Y6,q9a],λz=>(λ(s:q9y)(t:Rat)=>[IsP s t]) z.1 z.2,λb z=>(λ(s:q9y)(t:Rat)=> .tup [.agg [.dt jp bIsS (jQ s t)],.one (.kn .i64 0)]) z.1 z.2⟩ Pg:=mF Tryz.func166 [(158,.cI It),(167,.cI AX),(207,.cI Ip)] (λ(s:q9y)(t:Rat) b hx hp=>q9 (qB (QX (hp _ q5Q))) (q9 B7 qr)) (λ(s:q9y)(t:Rat) hx hp=>by
 have hp0:IsP s t:=hp _ (q5Q);have hxl:s.2.2.2.2.length<=16:=hx.1.2.2.2.2.1
 refine⟨.cond (.dead)<|.loop [.s 23 q97 q8Y,.ex (gboX 6 90001 [(.dt q91 q9u s.2.1),(.dt q9e q8P s.2.2.2.1)] [] q83 q7h 16)] (λ((i,o):Nat×List (q9G))=>o=isoH s t i/\i<=(auN s (s.2.2.2.2.getD 0 []).length).length) (λ((i,o):Nat×List (q9G))=>(auN s (s.2.2.2.2.getD 0 []).length).length-i) λ((i,o):Nat×List (q9G))=> .cond (.cond (.dead)<|.h 10 1 (.ext wu)<|.h 10 3 (.mk (.im q83 q7h)) .nil)<|.pre 12 (.frz 90001 true []) .nil,kX (I3 (hp0.ku:qF s.2.2.1 s.1=0) (hp0.kv:qF s.2.2.2.1 s.2.1=0) (hp0.rs:rcS s=true)<|Sp ((!true)=true) (λh1=>(absurd h1 (by decide):False)) λh2=>I6 (hp0.sb:Bnd qH bSfl s) (hp0.r0:0<s.2.2.2.2.length) (hp0.rc: ∀i,i<s.2.2.2.2.length->(j4 s i).length=(j4 s 0).length) (rfl:([(.dt q91 q9u s.2.1),(.dt q9e q8P s.2.2.2.1)]:List WA)=[(.dt q91 q9u s.2.1),(.dt q9e q8P s.2.2.2.1)]) (rfl:([]:List WA)=[]) (rfl:0=([]:List (q9G)).length)<|I (⟨rfl,q6A _⟩:([]:List (q9G))=isoH s t 0/\0<=(auN s (s.2.2.2.2.getD 0 []).length).length) λ(i:Nat)(o:List (q9G))(hb3:HB [.s 23 q97 q8Y,.ex (gboX 6 90001 [(.dt q91 q9u s.2.1),(.dt q9e q8P s.2.2.2.1)] [] q83 q7h 16)] (i,o))(hI:o=isoH s t i/\i<=(auN s (s.2.2.2.2.getD 0 []).length).length)=>have hv8:=(show i<=1048576 from hb3.1);have hv9:=(show o.length<=16 from hb3.2.1.1);have hol:=(show o.length=i by rw[hI.1,CF]);have hal:=(Cb s (s.2.2.2.2.getD 0 []).length);have hwl:=(show(j4 s 0).length=(s.2.2.2.2.getD 0 []).length from rfl);have hw0:=(Jp hp0.sb);Sp (i<(auN s (s.2.2.2.2.getD 0 []).length).length) (λh4=>I2 (Lq:i<(auN s (s.2.2.2.2.getD 0 []).length).length) ((by rw[DE s _ _ _ (by omega)];exact hp0.sp (by rw[hwl];omega)):SpO ((auN s (s.2.2.2.2.getD 0 []).length).getD i (0,([],[]))) t)<|Sp (ivE ((auN s (s.2.2.2.2.getD 0 []).length).getD i (0,([],[]))).2.1 t≠0) (λh5=>(h5 (by rw[DE s _ _ _ (by omega)];exact OZ hp0.O):False)) λh6=>I6 (?_:o.length=o.length) (qy:Bnd q97 q8Y (i+1)) (rfl:([(.dt q91 q9u s.2.1),(.dt q9e q8P s.2.2.2.1)]:List WA)=[(.dt q91 q9u s.2.1),(.dt q9e q8P s.2.2.2.1)]) (rfl:([]:List WA)=[]) (Lq:o.length+[evS ((auN s (s.2.2.2.2.getD 0 []).length).getD i (0,([],[]))) t].length=(o++[evS ((auN s (s.2.2.2.2.getD 0 []).length).getD i (0,([],[]))) t]).length) (Lq:o.length+[evS ((auN s (s.2.2.2.2.getD 0 []).length).getD i (0,([],[]))) t].length<=16) (q6K (⟨q1F hI.1 hp0.O (by rw[hwl];omega) hwl,by omega⟩:o++[evS ((auN s (s.2.2.2.2.getD 0 []).length).getD i (0,([],[]))) t]=isoH s t (i+1)/\(i+1)<=(auN s (s.2.2.2.2.getD 0 []).length).length) (?_:(auN s (s.2.2.2.2.getD 0 []).length).length-(i+1)<(auN s (s.2.2.2.2.getD 0 []).length).length-i))) λh7=>I (?_:o.length=o.length) ((by rw[hI.1,show i=(s.2.2.2.2.getD 0 []).length by omega];rfl:(s.2.1,s.2.2.2.1,o)=jQ s t)))⟩<;>omega)
theorem Xv:FI.OK ⟨108,[q1X,.rat],[Y6,q9a],λz=>(λ(s:q9y)(t:Rat)=>[IsP s t]) z.1 z.2,λb z=>(λ(s:q9y)(t:Rat)=> .tup [.agg [.dt vj bIso (isoV (qD s) t).1],.one (.kn .i64 0)]) z.1 z.2⟩ Pg:=mF Tryz.func108 [(166,.cI Fh),(168,.cI Dj),(172,.o pcop_c)] (λ(s:q9y)(t:Rat) b hx hp=>q9 (qB (q46 (hp _ q5Q:IsP s t).iso)) (q9 B7 qr)) (λ(s:q9y)(t:Rat) hx hp=>by
 have hp0:IsP s t:=hp _ (q5Q)
 refine⟨.pre 5 (.frz 25 true [])<|.loop [.s 30 q97 q8Y,.ex (gboX 8 90001 [(.dt q91 q9u ((jQ s t).1)),(.dt q9e q8P (((jQ s t).2).1))] [] q82 q7s 16)] (λ((i,l):Nat×q9C)=>l=((jQ s t).2.2.take i).map jJ/\i<=(jQ s t).2.2.length) (λ((i,l):Nat×q9C)=>(jQ s t).2.2.length-i) λ((i,l):Nat×q9C)=> .cond (.h 8 1 (.ext wu)<|.h 8 4 (.mk (.im q82 (.p q7C q8N))) .nil)<|.pre 10 (.frz 90001 true []) .nil,kX (I6 (hp0:IsP s t) (?_:(((jQ s t).2).1).length=(((jQ s t).2).1).length) (rfl:([(.dt q91 q9u ((jQ s t).1)),(.dt q9e q8P (((jQ s t).2).1))]:List WA)=[(.dt q91 q9u ((jQ s t).1)),(.dt q9e q8P (((jQ s t).2).1))]) (rfl:([]:List WA)=[]) (rfl:0=([]:q9C).length) (⟨rfl,q6A _⟩:([]:q9C)=((jQ s t).2.2.take 0).map jJ/\0<=(jQ s t).2.2.length) λ(i:Nat)(l:q9C)(hb1:HB [.s 30 q97 q8Y,.ex (gboX 8 90001 [(.dt q91 q9u ((jQ s t).1)),(.dt q9e q8P (((jQ s t).2).1))] [] q82 q7s 16)] (i,l))(hI:l=((jQ s t).2.2.take i).map jJ/\i<=(jQ s t).2.2.length)=>have hv4:=(show i<=1048576 from hb1.1);have hv5:=(show l.length<=16 from hb1.2.1.1);have hil:=(show(jQ s t).2.2.length<=16 from(QX hp0).2.2.1);have hol:=(show l.length=i by rw[hI.1,q5J,q5L];omega);Sp (i<(((jQ s t).2).2).length) (λh2=>I6 (?_:i<(((jQ s t).2).2).length) (?_:l.length=l.length) ((λy hy=>by rw[q5U.1 hy];exact X0 hp0 (by omega): ∀x∈[jJ ((((jQ s t).2).2).getD i (0,(0,(0,0))))],Bnd q82 q7s x): ∀x∈[jJ ((((jQ s t).2).2).getD i (0,(0,(0,0))))],Bnd q82 q7s x) (qy:Bnd q97 q8Y (i+1)) (rfl:([(.dt q91 q9u ((jQ s t).1)),(.dt q9e q8P (((jQ s t).2).1))]:List WA)=[(.dt q91 q9u ((jQ s t).1)),(.dt q9e q8P (((jQ s t).2).1))]) (rfl:([]:List WA)=[])<|I2 (Lq:l.length+[jJ ((((jQ s t).2).2).getD i (0,(0,(0,0))))].length=(l++[jJ ((((jQ s t).2).2).getD i (0,(0,(0,0))))]).length) (Lq:l.length+[jJ ((((jQ s t).2).2).getD i (0,(0,(0,0))))].length<=16) (q6K (⟨map_d (by omega) hI.1,by omega⟩:l++[jJ ((((jQ s t).2).2).getD i (0,(0,(0,0))))]=((jQ s t).2.2.take (i+1)).map jJ/\(i+1)<=(jQ s t).2.2.length) (?_:(jQ s t).2.2.length-(i+1)<(jQ s t).2.2.length-i))) λh3=>I (?_:l.length=l.length) ((q1H hp0 hI.1 h3:((jQ s t).1,(((jQ s t).2).1),l)=(isoV (qD s) t).1)))⟩<;>omega)
theorem Tc:FI.OK ⟨175,[q88,(.fn 176)],[q7l,.u],λ_=>[],λb z=>(λ(l:q9F)(u:Unit)=>oO (.sl qV) (b0 b) l) z.1 z.2⟩ Pg:=mF Tryz.func175 [(176,.cI Tj)] (λ(l:q9F)(u:Unit) b hx hp=>q8 (Bnds.h2 hx).1 rfl) (λ(l:q9F)(u:Unit) hx hp=>by
 have hl0:l.length<=1048576:=hx.1.1
 refine⟨.cond .nil<|.h 3 2 (.mk (.arr q8f q7C))<|.loop [.s 15 q97 q8Y,.a 12 q8f q7C] (λ((i,out):Nat×q9F)=>Cpy l out i) (λ((i,out):Nat×q9F)=>l.length-i) λ((i,out):Nat×q9F)=> .cond .nil<|.pre 999999 (.frz 12 true [4]) .nil,kX (q6K (λ(h1:l=[])=>(by rw[h1]:[]=l))<|I2 (?_:l.length=l.length) (Cpy.start _:Cpy l (List.replicate l.length ((0,(0,0)):q9H)) 0) λ(i:Nat)(out:q9F)(hb3:HB [.s 15 q97 q8Y,.a 12 q8f q7C] (i,out))(hI:Cpy l out i)=>have hv6:=(show i<=1048576 from hb3.1);have hIl:=hI.hl;have hIi:=hI.hi;Sp (i<l.length) (λh4=>Id2 (?_:i<l.length)<|I2 (?_:i<out.length) (qy:Bnd q97 q8Y (i+1)) (q6K (hI.step _ (by omega):Cpy l (out.set i (l.getD i (0,(0,0)))) (i+1)) (?_:l.length-(i+1)<l.length-i))) λh5=>I (?_:l.length=out.length) ((hI.fin (by omega):out=l)))⟩<;>omega)
theorem q2x:FI.OK ⟨111,[q88],[q7l],λ_=>[],λb z=>(λ(l:q9F)=>oO (.sl qV) (b0 b) l) z⟩ Pg:=mF Tryz.func111 [(175,.cI Tc)] (λ(l:q9F) b hx hp=>q8 (Bnds.h1 hx) rfl) (λ(l:q9F) hx hp=>by
 refine⟨.nil,kX ((q6J l))⟩)
theorem Tb:FI.OK ⟨110,[q7U,(.fn 111)],[q7c,.u],λ_=>[],λb z=>(λ(l:List (q9F))(u:Unit)=>oO (.sl (.sl qV)) (b0 b) l) z.1 z.2⟩ Pg:=mF Tryz.func110 [(111,.cI q2x)] (λ(l:List (q9F))(u:Unit) b hx hp=>q8 (Bnds.h2 hx).1 rfl) (λ(l:List (q9F))(u:Unit) hx hp=>by
 have hl0:l.length<=1048576:=hx.1.1
 refine⟨.cond .nil<|.h 3 2 (.mk (.arr q88 q7l))<|.loop [.s 15 q97 q8Y,.a 12 q88 q7l] (λ((i,out):Nat×List (q9F))=>Cpy l out i) (λ((i,out):Nat×List (q9F))=>l.length-i) λ((i,out):Nat×List (q9F))=> .cond .nil<|.pre 999999 (.frz 12 true [4]) .nil,kX (q6K (λ(h1:l=[])=>(by rw[h1]:[]=l))<|I2 (?_:l.length=l.length) (Cpy.start _:Cpy l (List.replicate l.length ([]:q9F)) 0) λ(i:Nat)(out:List (q9F))(hb3:HB [.s 15 q97 q8Y,.a 12 q88 q7l] (i,out))(hI:Cpy l out i)=>have hv6:=(show i<=1048576 from hb3.1);have hIl:=hI.hl;have hIi:=hI.hi;Sp (i<l.length) (λh4=>Id2 (?_:i<l.length)<|I2 (?_:i<out.length) (qy:Bnd q97 q8Y (i+1)) (q6K (hI.step _ (by omega):Cpy l (out.set i (l.getD i [])) (i+1)) (?_:l.length-(i+1)<l.length-i))) λh5=>I (?_:l.length=out.length) ((hI.fin (by omega):out=l)))⟩<;>omega)
theorem Th:FI.OK ⟨54,[q7U],[q7c],λ_=>[],λb z=>(λ(l:List (q9F))=>oO (.sl (.sl qV)) (b0 b) l) z⟩ Pg:=mF Tryz.func54 [(110,.cI Tb)] (λ(l:List (q9F)) b hx hp=>q8 (Bnds.h1 hx) rfl) (λ(l:List (q9F)) hx hp=>by
 refine⟨.nil,kX ((q6J l))⟩)
def rwG(s:qu)(u:Rat)(vs:List Rat):Nat->List V3
 |0=>[]
 |n+1=>rwG s u vs n++[evV (isoV (qD s) u).1 (vs.getD n 0)]
theorem Jt(s:qu)(u:Rat)(vs:List Rat): ∀n,(rwG s u vs n).length=n
 |0=>rfl
 |n+1=>by simp only[rwG,q5G,Jt s u vs n,q5H,q5K]
structure RwP (s:qu) (u:Rat) (vs:List Rat):Prop where
 isp:IsP s u
 ev: ∀i,i<vs.length->EvC (isoV (qD s) u).1 (vs.getD i 0)
 ip:IpO (isoV (qD s) u).1.2.1 (isoV (qD s) u).1.1.toNat
 ck:qF (isoV (qD s) u).1.2.1 (isoV (qD s) u).1.1=0
 vl:vs.length<=64
theorem q4Y{s:qu}{u:Rat}{vs:List Rat}{i:Nat}{l:List V3}(h:l=rwG s u vs i):l++[evV (isoV (qD s) u).1 (vs.getD i 0)]=rwG s u vs (i+1):=by rw[h];rfl
abbrev bRw:Bd:= .s 64 (bV3 67108868)
theorem V0{s:qu}{u:Rat}{vs:List Rat}(h:RwP s u vs): ∀n,n<=vs.length-> ∀p∈rwG s u vs n,Bnd qV (bV3 67108868) p
 |0,_,p,hp=>by cases hp
 |n+1,hn,p,hp=>by
  simp only[rwG,q5N,q5U]at hp;rcases hp with hp|hp
  .exact V0 h n (by omega) p hp
  .rw[hp];exact Ul (h.ev n (by omega))
theorem V1{s:qu}{u:Rat}{vs:List Rat}(h:RwP s u vs):Bnd (.sl qV) bRw (rwG s u vs vs.length):=⟨by rw[Jt];exact h.vl,V0 h _ (q6d _)⟩
def grG(s:qu)(us vs:List Rat):Nat->List (List V3)
 |0=>[]
 |n+1=>grG s us vs n++[rwG s (us.getD n 0) vs vs.length]
theorem J7(s:qu)(us vs:List Rat): ∀n,(grG s us vs n).length=n
 |0=>rfl
 |n+1=>by simp only[grG,q5G,J7 s us vs n,q5H,q5K]
theorem q3U{s:qu}{us vs:List Rat}{i:Nat}{l:List (List V3)}(h:l=grG s us vs i):l++[rwG s (us.getD i 0) vs vs.length]=grG s us vs (i+1):=by rw[h];rfl
theorem q2I:FI.OK ⟨53,[q1X,.rat,q9e],[Y6,q9a,q8l],λz=>(λ(s:q9y)(u:Rat)(vs:List Rat)=>[RwP s u vs]) z.1 z.2.1 z.2.2,λb z=>(λ(s:q9y)(u:Rat)(vs:List Rat)=>oO (.sl qV) bRw (rwG s u vs vs.length)) z.1 z.2.1 z.2.2⟩ Pg:=mF Tryz.func53 [(108,.cI Xv),(109,.cI Tl)] (λ(s:q9y)(u:Rat)(vs:List Rat) b hx hp=>q8 (V1 (hp _ q5Q)) rfl) (λ(s:q9y)(u:Rat)(vs:List Rat) hx hp=>by
 have hl2:vs.length<=1048576:=hx.2.2.1;have hp0:RwP s u vs:=hp _ (q5Q)
 refine⟨.loop [.s 22 q97 q8Y,.g 7 90001 q8f q7G 64] (λ((i,l):Nat×q9F)=>l=rwG s u vs i/\i<=vs.length) (λ((i,l):Nat×q9F)=>vs.length-i) λ((i,l):Nat×q9F)=> .cond (.h 7 2 (.mk (.im q8f q7G)) .nil)<|.pre 9 (.frz 90001 true [7]) .nil,kX (I3 (hp0.isp:IsP s u) (rfl:0=([]:q9F).length) (⟨rfl,q6A _⟩:([]:q9F)=rwG s u vs 0/\0<=vs.length) λ(i:Nat)(l:q9F)(hb1:HB [.s 22 q97 q8Y,.g 7 90001 q8f q7G 64] (i,l))(hI:l=rwG s u vs i/\i<=vs.length)=>have hv4:=(show i<=1048576 from hb1.1);have hv5:=(show l.length<=64 from hb1.2.1);have hvl:=hp0.vl;have hol:=(show l.length=i by rw[hI.1,Jt]);Sp (i<vs.length) (λh2=>I6 (?_:i<vs.length) (hp0.ev i (by omega):EvC ((isoV (qD s) u).1) (vs.getD i 0)) (hp0.ip:IpO ((isoV (qD s) u).1).2.1 ((isoV (qD s) u).1).1.toNat) (hp0.ck:qF ((isoV (qD s) u).1).2.1 ((isoV (qD s) u).1).1=0) (?_:l.length=l.length) (qy:Bnd q97 q8Y (i+1))<|I2 (Lq:l.length+[evV ((isoV (qD s) u).1) (vs.getD i 0)].length=(l++[evV ((isoV (qD s) u).1) (vs.getD i 0)]).length) (Lq:l.length+[evV ((isoV (qD s) u).1) (vs.getD i 0)].length<=64) (q6K (⟨q4Y hI.1,by omega⟩:l++[evV ((isoV (qD s) u).1) (vs.getD i 0)]=rwG s u vs (i+1)/\(i+1)<=vs.length) (?_:vs.length-(i+1)<vs.length-i))) λh3=>I (?_:l.length=l.length) ((by rw[hI.1,show i=vs.length by omega]:l=rwG s u vs vs.length)))⟩<;>omega)
section
def stG(a s:Rat):Nat->List Rat
 |0=>[]
 |j+1=>stG a s j++[a+(((j+1:Nat):Int):Rat)*s]
def ppN(k:List Rat)(m:Nat):Nat->List Rat
 |0=>[k.getD 0 0]
 |i+1=>if k.getD i 0=k.getD (i+1) 0 then ppN k m i else ppN k m i++stG (k.getD i 0) ((k.getD (i+1) 0-k.getD i 0)/(((m:Nat):Int):Rat)) m
def ppV(k:List Rat)(m:Nat):List Rat:=ppN k m (k.length-1)
def rrG(a d:Rat)(m:Nat):Nat->List Rat
 |0=>[]
 |j+1=>rrG a d m j++[a+((j:Nat):Int)/(((m:Nat):Int):Rat)*d]
def prN(l:List Rat)(m:Nat):Nat->List Rat
 |0=>[]
 |i+1=>prN l m i++rrG (l.getD i 0) (l.getD (i+1) 0-l.getD i 0) m m
def prV(k:List Rat)(m:Nat):List Rat:=prN (dst k) m ((dst k).length-1)++[(dst k).getD ((dst k).length-1) 0]
theorem Jy(a s:Rat): ∀j,(stG a s j).length=j
 |0=>rfl
 |j+1=>by simp only[stG,q5G,Jy a s j,q5H,q5K]
theorem NX(k:List Rat)(m:Nat): ∀i,(ppN k m i).length<=1+i*m/\1<=(ppN k m i).length
 |0=>by simp[ppN]
 |i+1=>by
  have h:=NX k m i;rw[ppN,q6y];split
  .omega
  .rw[q5G,Jy];omega
def KnU(d:Int)(k:List Rat):Prop:=
 ∃t w:Rat,t<w/\HZ 40 t/\HZ 40 w/\((d=1/\(k=[t,t,w,w]\/ ∃u,t<u/\u<w/\HZ 40 u/\k=[t,t,u,w,w]))\/(d=2/\(k=[t,t,t,w,w,w]\/ ∃u,t<u/\u<w/\HZ 40 u/\k=[t,t,t,u,w,w,w])))
theorem BN{x y:Rat}(h:y<=x): ¬qL x y<0:=λg=>absurd (FQ.1 g) (Rat.not_lt.2 h)
section
variable {d:Int} {k:List Rat}
theorem KnU.dr(h:KnU d k):1<=d/\d<=2:=by
 obtain⟨t,w,_,_,_,⟨rfl,_⟩|⟨rfl,_⟩⟩:=h<;>decide
theorem KnU.l(h:KnU d k):2*d.toNat+2<=k.length/\k.length<=2*d.toNat+3:=by
 obtain⟨t,w,_,_,_,⟨rfl,rfl|⟨u,_,_,_,rfl⟩⟩|⟨rfl,rfl|⟨u,_,_,_,rfl⟩⟩⟩:=h<;>exact⟨by simp,by simp⟩
theorem KnU.b(h:KnU d k):Bnd q9e q8P k:=by
 obtain⟨t,w,_,ht,hw,⟨rfl,rfl|⟨u,_,_,hu,rfl⟩⟩|⟨rfl,rfl|⟨u,_,_,hu,rfl⟩⟩⟩:=h<;>refine⟨by simp,λx hx=>?_⟩<;>simp only[q5O,q5W,or_false]at hx
 .rcases hx with rfl|rfl|rfl|rfl<;>first|exact ht.bnd|exact hw.bnd
 .rcases hx with rfl|rfl|rfl|rfl|rfl<;>first|exact ht.bnd|exact hw.bnd|exact hu.bnd
 .rcases hx with rfl|rfl|rfl|rfl|rfl|rfl<;>first|exact ht.bnd|exact hw.bnd
 .rcases hx with rfl|rfl|rfl|rfl|rfl|rfl|rfl<;>first|exact ht.bnd|exact hw.bnd|exact hu.bnd
theorem KnU.chk(h:KnU d k):qF k d=0:=by
 obtain⟨t,w,h0,_,_,⟨rfl,rfl|⟨u,h1,h2,_,rfl⟩⟩|⟨rfl,rfl|⟨u,h1,h2,_,rfl⟩⟩⟩:=h
 all_goals
  have e1:=Rat.ne_of_lt h0;have e2:w≠t:=e1.symm;have q:=BN (q6P h0);have q1:=BN (q6X (a:=t));have q2:=BN (q6X (a:=w))
 .simp[qF,vD,okN,vI,dst,jV,qW,e1,e2,q,q1,q2]
 .have f1:=Rat.ne_of_lt h1;have f2:=f1.symm;have g1:=Rat.ne_of_lt h2;have g2:=g1.symm
  have r1:=BN (q6P h1);have r2:=BN (q6P h2)
  simp[qF,vD,okN,vI,dst,jV,qW,e1,e2,q1,q2,f1,f2,g1,g2,r1,r2]
 .simp[qF,vD,okN,vI,dst,jV,qW,e1,e2,q,q1,q2]
 .have f1:=Rat.ne_of_lt h1;have f2:=f1.symm;have g1:=Rat.ne_of_lt h2;have g2:=g1.symm
  have r1:=BN (q6P h1);have r2:=BN (q6P h2)
  simp[qF,vD,okN,vI,dst,jV,qW,e1,e2,q1,q2,f1,f2,g1,g2,r1,r2]
theorem MC{k:List Rat}(h: ∀a,a+1<k.length->k.getD a 0<=k.getD (a+1) 0): ∀n a b,b=a+n->b<k.length->k.getD a 0<=k.getD b 0
 |0,a,b,e,hb=>by rw[e];exact q6X
 |n+1,a,b,e,hb=>Rat.le_trans (MC h n a (a+n) rfl (by omega)) (by rw[e];exact h (a+n) (by omega))
theorem KnU.ip(h:KnU d k):IpO k d.toNat:=by
 have key: ∀{k:List Rat},(∀a,a+1<k.length->k.getD a 0<=k.getD (a+1) 0)-> ∀a b,a<=b->b<k.length->k.getD a 0<=k.getD b 0:=λh a b e hb=>MC h (b-a) a b (by omega) hb
 obtain⟨t,w,h0,_,_,⟨rfl,rfl|⟨u,h1,h2,_,rfl⟩⟩|⟨rfl,rfl|⟨u,h1,h2,_,rfl⟩⟩⟩:=h
 .exact⟨key λa ha=>match a,ha with
   |0,_=>q6X|1,_=>q6P h0|2,_=>q6X|n+3,h=>absurd h (by simp),by simp,h0,q6X,q6X⟩
 .exact⟨key λa ha=>match a,ha with
   |0,_=>q6X|1,_=>q6P h1|2,_=>q6P h2|3,_=>q6X|n+4,h=>absurd h (by simp),by simp,h2,q6X,q6X⟩
 .exact⟨key λa ha=>match a,ha with
   |0,_=>q6X|1,_=>q6X|2,_=>q6P h0|3,_=>q6X|4,_=>q6X|n+5,h=>absurd h (by simp),by simp,h0,q6X,q6X⟩
 .exact⟨key λa ha=>match a,ha with
   |0,_=>q6X|1,_=>q6X|2,_=>q6P h1|3,_=>q6P h2|4,_=>q6X|5,_=>q6X|n+6,h=>absurd h (by simp),by simp,h2,q6X,q6X⟩
end
def QZ(x:Rat):Prop:= ∃z:Int,x*4=(z:Rat)/\z.natAbs<=160
theorem QZ.bnd{x:Rat}(h:QZ x):Bnd .rat q9v x:=by
 obtain⟨z,a,b⟩:=h;have e2:((4:Int):Rat)=4:=rfl
 have e:x=(z:Rat)/((4:Int):Rat):=by
  have:=Ui (x:=(z:Rat)) (y:=((4:Int):Rat)) (by rw[e2];decide);rw[e2]at this⊢;generalize(z:Rat)/4=u at*;grind
 rw[e];exact qQ (CI (n:=z) (d:=4) (b:=160) (c:=4) b (by decide)) (by decide)
theorem HZ.q{x:Rat}(h:HZ 40 x):QZ x:=by
 obtain⟨z,a,b⟩:=h;refine⟨2*z,?_,by omega⟩;rw[Rat.intCast_mul,<-a];have e2:((2:Int):Rat)=2:=rfl
 rw[e2];grind
theorem HZ.mid{x y:Rat}(h:HZ 40 x)(g:HZ 40 y):QZ (x+(y-x)/2):=by
 obtain⟨z,a,b⟩:=h;obtain⟨z2,a2,b2⟩:=g;refine⟨z+z2,?_,by omega⟩;rw[Rat.intCast_add,<-a,<-a2];grind
structure PaO (k:List Rat) (x:Rat):Prop where
 q:QZ x
 a:k.getD 0 0<=x
 b:x<=k.getD (k.length-1) 0
theorem PaO.o{k:List Rat}{x:Rat}(h:PaO k x): ¬ivO k x:=by
 rintro(g|g)
 .exact BN h.a g
 .exact absurd (q3F.1 g) (Rat.not_lt.2 h.b)
theorem pr1{t w:Rat}(m:Nat):t+((0:Nat):Int)/(((m:Nat):Int):Rat)*(w-t)=t:=by
 have e1:(((0:Nat):Int):Rat)=0:=rfl;rw[e1,Rat.div_def,Rat.zero_mul,Rat.zero_mul,Rat.add_zero]
theorem pr2{t w:Rat}:t+((1:Nat):Int)/(((2:Nat):Int):Rat)*(w-t)=t+(w-t)/2:=by
 have e1:(((1:Nat):Int):Rat)=1:=rfl;have e2:(((2:Nat):Int):Rat)=2:=rfl;rw[e1,e2];grind
structure PaL (k:List Rat) (m:Nat):Prop where
 e:prV k m=ppV k m
 l:(ppV k m).length<=5
 p:1<=(ppV k m).length
 m: ∀x∈ppV k m,PaO k x
theorem Io{k l:List Rat}{m:Nat}(h1:ppV k m=l)(h2:prV k m=l)(h3:l.length<=5)(h5:1<=l.length)(h4: ∀x∈l,PaO k x):PaL k m:=⟨by rw[h1,h2],by rw[h1];exact h3,by rw[h1];exact h5,by rw[h1];exact h4⟩
theorem M5{t w:Rat}(h:t<w):t<t+(w-t)/2/\t+(w-t)/2<w:=by constructor<;>grind
theorem KnU.pa{d:Int}{k:List Rat}(h:KnU d k){m:Nat}(hm:m=1\/m=2):PaL k m:=by
 obtain⟨t,w,h0,zt,zw,h⟩:=h;have e1:=Rat.ne_of_lt h0;have e2:w≠t:=e1.symm;have n0:=M5 h0
 have c1:(k=[t,t,w,w]\/k=[t,t,t,w,w,w])\/ ∃u,t<u/\u<w/\HZ 40 u/\(k=[t,t,u,w,w]\/k=[t,t,t,u,w,w,w]):=by
  rcases h with⟨_,h|⟨u,a,b,c,h⟩⟩|⟨_,h|⟨u,a,b,c,h⟩⟩
  .exact .inl (.inl h)
  .exact .inr ⟨u,a,b,c,.inl h⟩
  .exact .inl (.inr h)
  .exact .inr ⟨u,a,b,c,.inr h⟩
 rcases c1 with c|⟨u,h1,h2,zu,c⟩
 .have ends:k.getD 0 0=t/\k.getD (k.length-1) 0=w:=by rcases c with rfl|rfl<;>exact⟨rfl,rfl⟩
  have pt:PaO k t:=⟨zt.q,by rw[ends.1];exact q6X,by rw[ends.2];exact q6P h0⟩;have pw:PaO k w:=⟨zw.q,by rw[ends.1];exact q6P h0,by rw[ends.2];exact q6X⟩;have pm:PaO k (t+(w-t)/2):=⟨zt.mid zw,by rw[ends.1];exact q6P n0.1,by rw[ends.2];exact q6P n0.2⟩;rcases hm with rfl|rfl
  .refine Io (l:=[t,w]) ?_ ?_ (by simp) (by simp) (λx hx=>?_)
   .rcases c with rfl|rfl<;>simp[ppV,ppN,stG,e1]<;>grind
   .rcases c with rfl|rfl<;>simp[prV,prN,rrG,dst,jV,e2]<;>exact pr1 1
   .simp only[q5O,q5W,or_false]at hx
    rcases hx with rfl|rfl<;>assumption
  .refine Io (l:=[t,t+(w-t)/2,w]) ?_ ?_ (by simp) (by simp) (λx hx=>?_)
   .rcases c with rfl|rfl<;>simp[ppV,ppN,stG,e1]<;>grind
   .rcases c with rfl|rfl<;>simp[prV,prN,rrG,dst,jV,e2]<;>exact⟨pr1 2,pr2⟩
   .simp only[q5O,q5W,or_false]at hx
    rcases hx with rfl|rfl|rfl<;>assumption
 .have f1:=Rat.ne_of_lt h1;have f2:=f1.symm;have g1:=Rat.ne_of_lt h2;have g2:=g1.symm
  have n1:=M5 h1;have n2:=M5 h2
  have ends:k.getD 0 0=t/\k.getD (k.length-1) 0=w:=by rcases c with rfl|rfl<;>exact⟨rfl,rfl⟩
  have pt:PaO k t:=⟨zt.q,by rw[ends.1];exact q6X,by rw[ends.2];exact q6P h0⟩;have pw:PaO k w:=⟨zw.q,by rw[ends.1];exact q6P h0,by rw[ends.2];exact q6X⟩;have pu:PaO k u:=⟨zu.q,by rw[ends.1];exact q6P h1,by rw[ends.2];exact q6P h2⟩;have pm:PaO k (t+(u-t)/2):=⟨zt.mid zu,by rw[ends.1];exact q6P n1.1,by rw[ends.2];have:=n1.2;grind⟩;have pm2:PaO k (u+(w-u)/2):=⟨zu.mid zw,by rw[ends.1];have:=n2.1;grind,by rw[ends.2];exact q6P n2.2⟩;rcases hm with rfl|rfl
  .refine Io (l:=[t,u,w]) ?_ ?_ (by simp) (by simp) (λx hx=>?_)
   .rcases c with rfl|rfl<;>simp[ppV,ppN,stG,f1,g1]<;>grind
   .rcases c with rfl|rfl<;>simp[prV,prN,rrG,dst,jV,f2,g2]<;>exact⟨pr1 1,pr1 1⟩
   .simp only[q5O,q5W,or_false]at hx
    rcases hx with rfl|rfl|rfl<;>assumption
  .refine Io (l:=[t,t+(u-t)/2,u,u+(w-u)/2,w]) ?_ ?_ (by simp) (by simp) (λx hx=>?_)
   .rcases c with rfl|rfl<;>simp[ppV,ppN,stG,f1,g1]<;>grind
   .rcases c with rfl|rfl<;>simp[prV,prN,rrG,dst,jV,f2,g2]<;>exact⟨pr1 2,pr2,pr1 2,pr2⟩
   .simp only[q5O,q5W,or_false]at hx
    rcases hx with rfl|rfl|rfl|rfl|rfl<;>assumption
theorem Nn{n:Int}(h0:0<=n)(h1:n<=1):qU .shl .i64 1 n ((2^n.toNat:Nat):Int):=by
 have:n=0\/n=1:=by omega
 rcases this with rfl|rfl<;>exact⟨by decide,by decide⟩
theorem Pu{n:Int}(h0:0<=n)(h1:n<=1):2^n.toNat<=2:=by
 have:n=0\/n=1:=by omega
 rcases this with rfl|rfl<;>decide
theorem sh_c{n:Int}(h0:0<=n)(h1:n<=1):2^n.toNat=1\/2^n.toNat=2:=by
 have:n=0\/n=1:=by omega
 rcases this with rfl|rfl<;>decide
theorem PaL.bnd{k:List Rat}{m:Nat}(h:PaL k m):Bnd q9e (.s 64 q9n) (ppV k m):=⟨by have:=h.l;omega,λx hx=>qQ (h.m x hx).q.bnd (by decide)⟩
section
variable {k l o:List Rat} {m i j:Nat} {a s:Rat}
theorem cq_0{x y:Rat}:qL x y=0↔x=y:=by unfold qL;(repeat' split)<;>grind
theorem pp_a(h:l=ppN k m (i-1))(h1:1<=i)(hc:qL (k.getD (i-1) 0) (k.getD i 0)=0):l=ppN k m (i+1-1):=by
 rw[h,show i+1-1=i-1+1 by omega,ppN,show i-1+1=i by omega,if_pos (cq_0.1 hc)]
theorem pp_b(h:l=ppN k m (i-1))(h1:1<=i)(hc: ¬qL (k.getD (i-1) 0) (k.getD i 0)=0)(ho:o=l++stG (k.getD (i-1) 0) ((k.getD i 0-k.getD (i-1) 0)/(((m:Nat):Int):Rat)) (j-1))(hj:j-1=m):o=ppN k m (i+1-1):=by
 rw[ho,hj,show i+1-1=i-1+1 by omega,ppN,show i-1+1=i by omega,if_neg (mt cq_0.2 hc),h]
theorem st_s(h:o=l++stG a s (j-1))(h1:1<=j):o++[a+((j:Nat):Int)*s]=l++stG a s (j+1-1):=by
 rw[h,show j+1-1=j-1+1 by omega,stG,show j-1+1=j by omega,q5s]
theorem q2H(h:l=ppN k m (i-1))(h2:i<=k.length)(h3: ¬i<k.length):l=ppV k m:=by rw[h,ppV,show k.length=i by omega]
theorem q4R(hk:k.length<=16)(hm:m<=2)(h:l=ppN k m (i-1))(h2:i<=k.length):l.length<=31:=by
 have a:=(NX k m (i-1)).1;have b:(i-1)*m<=15*2:=q6p (by omega) hm;rw[h];omega
end
section
variable {k l o:List Rat} {m i j:Nat} {a d:Rat}
end
end
theorem RD:FI.OK ⟨51,[q9e,q91],[q8P,q8k],λz=>(λ(k:List Rat)(n:Int)=>[PaL k (2^n.toNat),0<=n,n<=1,1<=k.length]) z.1 z.2,λb z=>(λ(k:List Rat)(n:Int)=>oO q9e (.s 64 q9n) (ppV k (2^n.toNat))) z.1 z.2⟩ Pg:=mF Tryz.func51 [(37,.cI j8),(79,.cI jB),(80,.cI wW),(88,.cI jZ),(99,.cI Ag),(100,.cI qv)] (λ(k:List Rat)(n:Int) b hx hp=>q8 (hp _ q5Q:PaL k (2^n.toNat)).bnd rfl) (λ(k:List Rat)(n:Int) hx hp=>by
 have hl0:k.length<=16:=hx.1.1;have hx1:Int.natAbs n<=9223372036854775808:=hx.2;have hp0:PaL k (2^n.toNat):=hp _ (q5Q);have hp1:0<=n:=hp _ (q5P _ (q5Q));have hp2:n<=1:=hp _ (q5P _ (q5P _ (q5Q)));have hp3:1<=k.length:=hp _ (q5P _ (q5P _ (q5P _ (q5Q))));have hkl:k.length<=16:=hx.1.1;have hm2:=Pu hp1 hp2;have hm1:1<=2^n.toNat:=Nat.one_le_two_pow
 refine⟨.h 1 3 (.mk (.gro .rat q9n))<|.loop [.s 6 q97 q8Y,.g 5 90002 .rat q9n 64] (λ((i,l):Nat×List Rat)=>l=ppN k (2^n.toNat) (i-1)/\1<=i/\i<=k.length) (λ((i,l):Nat×List Rat)=>k.length-i) λ((i,l):Nat×List Rat)=> .cond (.h 5 2 (.i .sub)<|.cond .nil<|.h 7 4 (.i (.n (2^n.toNat) 2))<|.loop [.s 11 q97 q9t,.g 5 90001 .rat q9n 64] (λ((j,o):Nat×List Rat)=>o=l++stG (k.getD (i-1) 0) ((k.getD i 0-k.getD (i-1) 0)/(((2^n.toNat:Nat):Int):Rat)) (j-1)/\1<=j/\j<=2^n.toNat+1) (λ((j,o):Nat×List Rat)=>2^n.toNat+1-j) λ((j,o):Nat×List Rat)=> .h 9 2 (.i (.n (2^n.toNat) 2))<|.cond (.h 11 7 (.mk (.im .rat q9n)) .nil) .nil)<|.pre 12 (.frz 90002 true [5]) .nil,kX (I3 (?_:0<k.length) (Lq:1=[k.getD 0 0].length) (⟨rfl,by omega,by omega⟩:[k.getD 0 0]=ppN k (2^n.toNat) (1-1)/\1<=1/\1<=k.length) λ(i:Nat)(l:List Rat)(hb1:HB [.s 6 q97 q8Y,.g 5 90002 .rat q9n 64] (i,l))(hI:l=ppN k (2^n.toNat) (i-1)/\1<=i/\i<=k.length)=>have hv11:=(show i<=1048576 from hb1.1);have hv12:=(show l.length<=64 from hb1.2.1);have hI1:=hI.2.1;have hI2:=hI.2.2;have hll:=(q4R hkl hm2 hI.1 hI.2.2);Sp (i<k.length) (λh2=>I3 (?_:1<=i) (?_:i-1<k.length) (?_:i<k.length)<|Sp (qL (k.getD (i-1) 0) (k.getD i 0)=0) (λh3=>I2 (qy:Bnd q97 q8Y (i+1)) (?_:l.length=l.length) (q6K (⟨pp_a hI.1 hI.2.1 h3,by omega,by omega⟩:l=ppN k (2^n.toNat) ((i+1) -1)/\1<=(i+1)/\(i+1)<=k.length) (?_:k.length-(i+1)<k.length-i))) λh4=>I4 (Nn hp1 hp2:qU .shl .i64 1 n ((2^n.toNat:Nat):Int)) (Pu hp1 hp2:2^n.toNat<=2) (?_:l.length=l.length) (⟨(List.append_nil _).symm,by omega,by omega⟩:l=l++stG (k.getD (i-1) 0) ((k.getD i 0-k.getD (i-1) 0)/(((2^n.toNat:Nat):Int):Rat)) (1-1)/\1<=1/\1<=2^n.toNat+1) λ(j:Nat)(o:List Rat)(hb5:HB [.s 11 q97 q9t,.g 5 90001 .rat q9n 64] (j,o))(hJ:o=l++stG (k.getD (i-1) 0) ((k.getD i 0-k.getD (i-1) 0)/(((2^n.toNat:Nat):Int):Rat)) (j-1)/\1<=j/\j<=2^n.toNat+1)=>have hv8:=(show j<=4 from hb5.1);have hv9:=(show o.length<=64 from hb5.2.1);have hJ1:=hJ.2.1;have hJ2:=hJ.2.2;have hol:=(show o.length=l.length+(j-1) by rw[hJ.1,q5G,Jy]);I2 (Nn hp1 hp2:qU .shl .i64 1 n ((2^n.toNat:Nat):Int)) (Pu hp1 hp2:2^n.toNat<=2)<|Sp (j<=2^n.toNat) (λh6=>I4 (?_:o.length=o.length) (qy:Bnd q97 q9t (j+1)) (Lq:o.length+[(k.getD (i-1) 0)+((((j:Int):Int):Rat)*(((k.getD i 0) -(k.getD (i-1) 0))/((((2^n.toNat:Nat):Int):Int):Rat)))].length=(o++[(k.getD (i-1) 0)+((((j:Int):Int):Rat)*(((k.getD i 0) -(k.getD (i-1) 0))/((((2^n.toNat:Nat):Int):Int):Rat)))]).length) (Lq:o.length+[(k.getD (i-1) 0)+((((j:Int):Int):Rat)*(((k.getD i 0) -(k.getD (i-1) 0))/((((2^n.toNat:Nat):Int):Int):Rat)))].length<=64) (q6K (⟨st_s hJ.1 hJ.2.1,by omega,by omega⟩:o++[(k.getD (i-1) 0)+((((j:Int):Int):Rat)*(((k.getD i 0) -(k.getD (i-1) 0))/((((2^n.toNat:Nat):Int):Int):Rat)))]=l++stG (k.getD (i-1) 0) ((k.getD i 0-k.getD (i-1) 0)/(((2^n.toNat:Nat):Int):Rat)) ((j+1) -1)/\1<=(j+1)/\(j+1)<=2^n.toNat+1) (?_:2^n.toNat+1-(j+1)<2^n.toNat+1-j))) λh7=>I2 (qy:Bnd q97 q8Y (i+1)) (?_:o.length=o.length) (q6K (⟨pp_b hI.1 hI.2.1 h4 hJ.1 (by omega),by omega,by omega⟩:o=ppN k (2^n.toNat) ((i+1) -1)/\1<=(i+1)/\(i+1)<=k.length) (?_:k.length-(i+1)<k.length-i))) λh10=>I (?_:l.length=l.length) ((q2H hI.1 hI.2.2 (by omega):l=ppV k (2^n.toNat))))⟩<;>omega)
section
structure SgO (s:qu):Prop where
 b:Bnd qH bSfl s
 p:PosS s
 du:KnU s.1 s.2.2.1
 dv:KnU s.2.1 s.2.2.2.1
 nu:s.2.2.2.2.length+s.1.toNat+1=s.2.2.1.length
 nv: ∀i,i<s.2.2.2.2.length->(j4 s i).length+s.2.1.toNat+1=s.2.2.2.1.length
theorem Qy{c:j7}{t:Rat}(hk:KnU c.1 c.2.1)(hp: ∀p∈c.2.2,Bnd (.pr qV .rat) (.p (bV3 262144) q95) p)(hl:c.2.2.length+c.1.toNat+1=c.2.1.length)(ht:PaO c.2.1 t):EvC c t:=
 ⟨⟨by have:=hk.b.1;omega,λv hv=>qQ (hk.b.2 v hv) (by decide)⟩,hp,qQ ht.q.bnd (by decide),by have:=hk.dr;omega,by have:=hk.dr;omega,hk.l.1,hl,.inr (P0 hk.ip ht.o).1⟩
theorem RC{p:j2}{m k:Nat}(h:Bnd qi (j5 m) p)(hm:m<=k):Bnd (.pr qV .rat) (.p (bV3 k) (.n k)) p:=⟨Pz h.1 hm,qQ h.2 hm⟩
theorem q42{c:j7}{t:Rat}(hk: ∀v∈c.2.1,Bnd .rat q9u v)(hp: ∀p∈c.2.2,Bnd qi (j5 12) p)(ht:Bnd .rat q9v t)(h6:c.1<=6):Bnd qi (j5 200000) (jJ (homV c t)):=by
 have hb: ∀v∈jC c.2.1 c.1 t,Bnd .rat (.n 13547) v:=λv hv=>by
  unfold jC at hv;split at hv
  .cases hv
  .obtain⟨j,_,rfl⟩:=q6T.1 hv
   exact qQ (Ku (m:=26) (λv hv=>qQ (hk v hv) (by decide)) (qQ ht (by decide)) _ _ _) (q6e (JO 26 (show c.1.toNat<=6 by omega)) (by decide))
 have hl:=Hz c.2.1 c.1 t;have h:=LU (λp h=>hp p h) hb (jG c.2.1 c.1 t-c.1.toNat) (jC c.2.1 c.1 t).length
 have h:Bnd jx (bF4 95004) (homV c t):=Es h (by
  have:=q6r (13547+2*12+1) (show(jC c.2.1 c.1 t).length<=7 by omega)
  omega)
 have d:=DN h;have e:2*(bF4 95004).mx+2=190010:=by decide
 rw[e]at d;exact⟨Pz d.1 (by decide),qQ d.2 (by decide)⟩
section
variable {s:qu} {t:Rat} {vs:List Rat} (h:SgO s)
include h
theorem SgO.r0:0<s.2.2.2.2.length:=by have:=h.nu;have:=h.du.l;omega
theorem SgO.rc: ∀i,i<s.2.2.2.2.length->(j4 s i).length=(j4 s 0).length:=λi hi=>by have:=h.nv i hi;have:=h.nv 0 h.r0;omega
theorem SgO.rw'{i:Nat}(hi:i<s.2.2.2.2.length):vC s (s.2.2.2.2.getD i []):=by
 have a:(s.2.2.2.2.getD i []).length+s.2.1.toNat+1=s.2.2.2.1.length:=h.nv i hi;have:=h.dv.dr;unfold vC;omega
theorem SgO.len:((s.2.2.2.2.length:Nat):Int)=(s.2.2.1.length:Int) -s.1-1:=by
 have:=h.nu;have:=h.du.dr;omega
theorem SgO.chk:jj s=0:=(OH (by rw[h.du.chk];simp) (by rw[h.dv.chk];simp) (by rw[<-h.len];simp) (EJ.2 λj hj=>h.rw' hj)).symm
theorem SgO.rcs:rcS s=true:=Jn.2 ⟨h.len,EJ.2 λj hj=>h.rw' hj⟩
theorem SgO.k:s.2.2.1.length+s.2.2.2.1.length<=64:=by
 have h1:=h.b.2.2.1.1;have h2:=h.b.2.2.2.1.1;omega
theorem SgO.m:SmS s:=⟨q6e h.b.2.2.2.2.1 (by decide),λi=>q6e (CM h.b i).1 (by decide)⟩
omit h in
theorem SgO.sl(_:SgO s):(qD s).2.2.2.2.length=(j4 s 0).length:=Bt s _
theorem SgO.evr(ht:PaO s.2.2.1 t){i:Nat}(hi:i<(qD s).2.2.2.2.length):EvC (rowC (qD s) i) t:=by
 have e:(j4 (qD s) i).length=s.2.2.2.2.length:=by
  show((swN s (j4 s 0).length).getD i []).length=_;rw[Jz s _ i (by rw[h.sl]at hi;exact hi),Ek]
 exact Qy (c:=rowC (qD s) i) h.du (λp hp=>RC ((CM (JA h.b) i).2 p hp) (by decide)) (by show(j4 (qD s) i).length+s.1.toNat+1=_;rw[e];exact h.nu) ht
theorem SgO.iso(ht:PaO s.2.2.1 t):IsO (qD s) t:=by
 have hd:=h.du.dr;have hl:=h.du.l;refine⟨JA h.b,qQ ht.q.bnd (by decide),?_,?_,λi hi=>h.evr ht hi,λi hi=>?_⟩
 .show 0<=s.1;omega
 .show s.1.toNat+2<=s.2.2.1.length;omega
 .exact q42 (c:=rowC (qD s) i) h.du.b.2 (CM (JA h.b) i).2 ht.q.bnd (by show s.1<=6;omega)
theorem SgO.isp(ht:PaO s.2.2.1 t):IsP s t:=⟨h.b,h.r0,h.rc,h.du.chk,h.dv.chk,h.rcs,h.du.ip,ht.o,h.iso ht⟩
omit h in
theorem SgO.iv(_:SgO s)(ht:PaO s.2.2.1 t):(isoV (qD s) t).1=(s.2.1,s.2.2.2.1,isoP (qD s) t (qD s).2.2.2.2.length):=by
 unfold isoV;rw[if_neg (show¬ivE (qD s).2.2.2.1 t≠0 from λg=>g (OZ (show¬ivO s.2.2.1 t from ht.o)))];rfl
theorem SgO.rwp(ht:PaO s.2.2.1 t)(hv: ∀v∈vs,PaO s.2.2.2.1 v)(hl:vs.length<=64):RwP s t vs:=by
 have e:=h.iv ht;refine⟨h.isp ht,λi hi=>?_,?_,?_,hl⟩
 .rw[e]
  refine Qy (c:=(s.2.1,s.2.2.2.1,_)) h.dv (λp hp=>RC (LZ (h.iso ht) _ (q6d _) p hp) (by decide)) ?_ (hv _ (by rw[z6 hi];exact q6M _));show(isoP (qD s) t (qD s).2.2.2.2.length).length+s.2.1.toNat+1=s.2.2.2.1.length;rw[GT,h.sl];exact h.nv 0 h.r0
 .rw[e];exact h.dv.ip
 .rw[e];exact h.dv.chk
omit h in
end
def szE(n:Int):Int:=if n<0\/6<n then 2 else 0
def grV(s:qu)(m:Nat):List (List V3):=grG s (ppV s.2.2.1 m) (ppV s.2.2.2.1 m) (ppV s.2.2.1 m).length
def C3(s:qu)(n:Int):List (List V3):=if n<0\/6<n then[]else grV s (2^n.toNat)
def InR(n:Int):Prop:=n<0\/6<n\/(0<=n/\n<=1)
abbrev bGr:Bd:= .s 64 (.s 64 (bV3 67108868))
theorem V5(n:Int):(szE n).natAbs<=8:=by unfold szE;split<;>decide
theorem V7{n:Int}(h:n<0\/6<n):2=szE n:=(if_pos h).symm
theorem q5c{n:Int}(h: ¬(n<0\/6<n)):0=szE n:=(if_neg h).symm
theorem V6{n:Int}(hr:InR n)(h: ¬szE n≠0):0<=n/\n<=1:=by
 unfold szE at h;split at h
 .simp at h
 .unfold InR at hr;omega
theorem q5b{n:Int}(h: ¬szE n≠0): ¬(n<0\/6<n):=by
 unfold szE at h;split at h
 .simp at h
 .assumption
theorem gr_1{s:qu}{n:Int}(h:szE n≠0):[]=C3 s n:=by
 unfold C3 szE at*;split at h
 .rename_i g;rw[if_pos g]
 .exact absurd rfl h
theorem gr_2{s:qu}{n:Int}{i:Nat}{l:List (List V3)}(h: ¬szE n≠0)(hl:l=grG s (ppV s.2.2.1 (2^n.toNat)) (ppV s.2.2.2.1 (2^n.toNat)) i)(hi:i=(ppV s.2.2.1 (2^n.toNat)).length):l=C3 s n/\0=szE n:=by
 refine⟨?_,(Decidable.of_not_not h).symm⟩;rw[C3,if_neg (q5b h),hl,hi];rfl
section
variable {s:qu} {n:Int} (h:SgO s)
include h
theorem SgO.pu(h0:0<=n)(h1:n<=1):PaL s.2.2.1 (2^n.toNat):=h.du.pa (sh_c h0 h1)
theorem SgO.pv(h0:0<=n)(h1:n<=1):PaL s.2.2.2.1 (2^n.toNat):=h.dv.pa (sh_c h0 h1)
theorem SgO.rp(h0:0<=n)(h1:n<=1){i:Nat}(hi:i<(ppV s.2.2.1 (2^n.toNat)).length):RwP s ((ppV s.2.2.1 (2^n.toNat)).getD i 0) (ppV s.2.2.2.1 (2^n.toNat)):=
 h.rwp ((h.pu h0 h1).m _ (by rw[z6 hi];exact q6M _)) (h.pv h0 h1).m (by have:=(h.pv h0 h1).l;omega)
theorem SgO.gb(hr:InR n):Bnd (.sl (.sl qV)) bGr (C3 s n):=by
 unfold C3;split
 .exact⟨q6A _,λx hx=>by cases hx⟩
 .rename_i g
  have h0:0<=n:=by omega
  have h1:n<=1:=by unfold InR at hr;omega
  have key: ∀i,i<=(ppV s.2.2.1 (2^n.toNat)).length-> ∀x∈grG s (ppV s.2.2.1 (2^n.toNat)) (ppV s.2.2.2.1 (2^n.toNat)) i,Bnd (.sl qV) bRw x:=by
   intro i
   induction i with
   |zero=>intro _ x hx;cases hx
   |succ i ih=>
    intro hi x hx;simp only[grG,q5N,q5U]at hx;rcases hx with hx|hx
    .exact ih (by omega) x hx
    .rw[hx];exact V1 (h.rp h0 h1 (by omega))
  refine⟨?_,key _ (q6d _)⟩;show(grG _ _ _ _).length<=64;rw[J7];have:=(h.pu h0 h1).l;omega
end
end
theorem Jl:FI.OK ⟨50,[q1X,q91],[Y6,q8k],λz=>(λ(s:q9y)(n:Int)=>[SgO s]) z.1 z.2,λb z=>(λ(s:q9y)(n:Int)=>oO q91 q9v (szE n)) z.1 z.2⟩ Pg:=mF Tryz.func50 [(33,.cI RX)] (λ(s:q9y)(n:Int) b hx hp=>q8 (V5 n) rfl) (λ(s:q9y)(n:Int) hx hp=>by
 have hx1:Int.natAbs n<=9223372036854775808:=hx.2;have hp0:SgO s:=hp _ (q5Q)
 refine⟨.cond (.dead) .nil,kX (I3 (hp0.p:PosS s) (hp0.k:s.2.2.1.length+s.2.2.2.1.length<=64) (hp0.m:SmS s)<|Sp (jj s≠0) (λh1=>(h1 hp0.chk:False)) λh2=>Sp (n<0) (λh3=>(V7 (by omega):2=szE n)) λh4=>Sp (6<n) (λh5=>(V7 (by omega):2=szE n)) λh6=>(q5c (by omega):0=szE n))⟩)
theorem Xu:FI.OK ⟨17,[q1X,q91],[Y6,q8k],λz=>(λ(s:q9y)(n:Int)=>[SgO s,InR n]) z.1 z.2,λb z=>(λ(s:q9y)(n:Int)=> .tup [.one (.dt (.sl (.sl qV)) bGr (C3 s n)),.one (.dt q91 q9v (szE n))]) z.1 z.2⟩ Pg:=mF Tryz.func17 [(50,.cI Jl),(51,.cI RD),(53,.cI q2I),(54,.cI Th)] (λ(s:q9y)(n:Int) b hx hp=>q9 (q8 ((hp _ q5Q:SgO s).gb (hp _ (by simp))) rfl) (q9 (q8 (V5 n) rfl) qr)) (λ(s:q9y)(n:Int) hx hp=>by
 have hx1:Int.natAbs n<=9223372036854775808:=hx.2;have hp0:SgO s:=hp _ (q5Q);have hp1:InR n:=hp _ (q5P _ (q5Q))
 refine⟨.cond .nil<|.loop [.s 26 q97 q8Y,.g 7 90001 q88 q7y 64] (λ((i,l):Nat×List (q9F))=>l=grG s (ppV s.2.2.1 (2^n.toNat)) (ppV s.2.2.2.1 (2^n.toNat)) i/\i<=(ppV s.2.2.1 (2^n.toNat)).length) (λ((i,l):Nat×List (q9F))=>(ppV s.2.2.1 (2^n.toNat)).length-i) λ((i,l):Nat×List (q9F))=> .cond (.h 9 5 (.mk (.im q88 q7y)) .nil)<|.pre 11 (.frz 90001 true [7]) .nil,kX (I (hp0:SgO s)<|Sp (szE n≠0) (λh1=>q6K (gr_1 h1:[]=C3 s n) (q6J (szE n))) λh2=>have hn0:=(V6 hp1 h2).1;have hn1:=(V6 hp1 h2).2;have hPu:=hp0.pu hn0 hn1;have hPv:=hp0.pv hn0 hn1;have hul:=hPu.l;have hvl:=hPv.l;have hkl:=hp0.du.l;have hkv:=hp0.dv.l;I6 (hPv:PaL s.2.2.2.1 (2^n.toNat)) (hn0:0<=n) (hn1:n<=1) (?_:1<=s.2.2.2.1.length) (hPu:PaL s.2.2.1 (2^n.toNat)) (hn0:0<=n)<|I4 (hn1:n<=1) (?_:1<=s.2.2.1.length) (rfl:0=([]:List (q9F)).length) (⟨rfl,q6A _⟩:([]:List (q9F))=grG s (ppV s.2.2.1 (2^n.toNat)) (ppV s.2.2.2.1 (2^n.toNat)) 0/\0<=(ppV s.2.2.1 (2^n.toNat)).length) λ(i:Nat)(l:List (q9F))(hb3:HB [.s 26 q97 q8Y,.g 7 90001 q88 q7y 64] (i,l))(hI:l=grG s (ppV s.2.2.1 (2^n.toNat)) (ppV s.2.2.2.1 (2^n.toNat)) i/\i<=(ppV s.2.2.1 (2^n.toNat)).length)=>have hv6:=(show i<=1048576 from hb3.1);have hv7:=(show l.length<=64 from hb3.2.1);have hI2:=hI.2;have hll:=(show l.length=i by rw[hI.1,J7]);Sp (i<(ppV s.2.2.1 (2^n.toNat)).length) (λh4=>I6 (?_:i<(ppV s.2.2.1 (2^n.toNat)).length) (hp0.rp hn0 hn1 (by omega):RwP s ((ppV s.2.2.1 (2^n.toNat)).getD i 0) (ppV s.2.2.2.1 (2^n.toNat))) (?_:l.length=l.length) (qy:Bnd q97 q8Y (i+1)) (Lq:l.length+[rwG s ((ppV s.2.2.1 (2^n.toNat)).getD i 0) (ppV s.2.2.2.1 (2^n.toNat)) (ppV s.2.2.2.1 (2^n.toNat)).length].length=(l++[rwG s ((ppV s.2.2.1 (2^n.toNat)).getD i 0) (ppV s.2.2.2.1 (2^n.toNat)) (ppV s.2.2.2.1 (2^n.toNat)).length]).length) (Lq:l.length+[rwG s ((ppV s.2.2.1 (2^n.toNat)).getD i 0) (ppV s.2.2.2.1 (2^n.toNat)) (ppV s.2.2.2.1 (2^n.toNat)).length].length<=64) (q6K (⟨q3U hI.1,by omega⟩:l++[rwG s ((ppV s.2.2.1 (2^n.toNat)).getD i 0) (ppV s.2.2.2.1 (2^n.toNat)) (ppV s.2.2.2.1 (2^n.toNat)).length]=grG s (ppV s.2.2.1 (2^n.toNat)) (ppV s.2.2.2.1 (2^n.toNat)) (i+1)/\(i+1)<=(ppV s.2.2.1 (2^n.toNat)).length) (?_:(ppV s.2.2.1 (2^n.toNat)).length-(i+1)<(ppV s.2.2.1 (2^n.toNat)).length-i))) λh5=>I (?_:l.length=l.length) (q6K ((gr_2 h2 hI.1 (by omega)).1:l=C3 s n) ((gr_2 h2 hI.1 (by omega)).2:0=szE n)))⟩<;>omega)
theorem q38:FI.OK ⟨231,[.rat,.rat],[q8F,q8F],λ_=>[],λb z=>(λ(x:Rat)(y:Rat)=>oA q8L (.p (.n (max (b0 b).nb (b1 b).nb)) (.n (max (b0 b).nb (b1 b).nb))) (minQ x y,maxQ x y)) z.1 z.2⟩ Pg:=mF Tryz.func231 [(40,.cI E0),(244,.cI q2V)] (λ(x:Rat)(y:Rat) b hx hp=>qB ⟨M6 (Bnds.h2 hx).1 (Bnds.h2 hx).2,CJ (Bnds.h2 hx).1 (Bnds.h2 hx).2⟩) (λ(x:Rat)(y:Rat) hx hp=>by
 refine⟨.nil,kX ((q6J (minQ x y,maxQ x y)))⟩)
theorem AW:FI.OK ⟨253,[q91,q91],[q8j,q8j],λ_=>[],λb z=>(λ(u:Int)(v:Int)=> .tup [.agg [.dt .rat (.n (max (Nat.log2 (b0 b).nb+1) (Nat.log2 (b1 b).nb+1))) ((u:Rat)/(v:Rat))],.one (.dt q91 q9s (mkC' v))]) z.1 z.2⟩ Pg:=mF Tryz.func253 [(83,.cI CN),(156,.cI O5)] (λ(u:Int)(v:Int) b hx hp=>q9 (v7 (CI (Bnds.h2 hx).1.int (Bnds.h2 hx).2.int)) (q9 (q8 (UD v) rfl) qr)) (λ(u:Int)(v:Int) hx hp=>by
 refine⟨.nil,kX (Sp (v=0) (λh1=>q6K (by rw[show v=0 by assumption];simp[Rat.div_def]:0=((u:Int):Rat)/((v:Int):Rat)) ((if_pos (by assumption)).symm:3=mkC' v)) λh2=>q6K (Jc u v:qg (decide ((decide (u<0))≠(decide (v<0)))) u.natAbs v.natAbs=((u:Int):Rat)/((v:Int):Rat)) ((if_neg (by assumption)).symm:0=mkC' v))⟩)
end Go.Proofs.YtajflbhmdcgkmaaGreat.Sx
