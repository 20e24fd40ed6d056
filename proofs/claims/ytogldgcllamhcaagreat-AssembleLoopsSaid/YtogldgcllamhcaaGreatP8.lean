/-
Own laws and walks for the claim, part 8: KxP, KzC, KzD, KzE, KzF, KzG, KzH, KzI, KzJ, KzK, KxU, KxX, KxX2, KxY, KxY2, KxX3, KxX4, KzC0, KzLa. No condition.
-/
import Derived.Test.YtogldgcllamhcaaGreatP7
import Derived.Test.YtogldgcllamhcaaGreatProg
import Derived.KernelRfl
namespace Go.Proofs.YtogldgcllamhcaaGreat.Sx.Kx
open Go
set_option linter.unusedVariables false
set_option linter.unusedSimpArgs false
noncomputable section
section
variable {D:List Int} {P:Program}
theorem GO{l:List V}{t:Nat}{x:V}(h:l[t]?=some x):nthV l t=x:=by
 simp[nthV,q11,h]
theorem K1{l:List V}{t:Nat}(h:l[t]?=none):nthV l t= .und:=by
 simp[nthV,q11,h]
theorem Wt{l:List ResultVar}{r:R}{v:V}{s':S}(h:retR P l r= .ok v s'): ∃x e s,r= .ok x e s∧(x= .nrm∨x= .ret)∧retA s (l.map (v9 P e s.m))= .ok v s':=by
 cases r with
 |no t=>cases h
 |need n=>cases h
 |ok x e s=>
  cases x with
  |nrm=>exact⟨.nrm,e,s,rfl,.inl rfl,h⟩
  |ret=>exact⟨.ret,e,s,rfl,.inr rfl,h⟩
  |ext i=>cases h
theorem NH{f:Nat}{r:RO}{v:V}{s:S}(h:addT f r= .ok v s):r= .ok v s:=by cases r<;>first|exact h|cases h
theorem XD{rc:FuncId→List V→S→RO}(hrc:RcOk D P rc)(hm:P.follows .mixedOrders=true){f:FuncId}{fn:Func}{c:Code}(hf:P.funcs[f]?=some fn)(hb:fn.body=some c){vs:List V}{s s':S}{v:V}
  (hk:jB fn.ntmps c=true)(hl16:vs.length≤16)(hln:vs.length≤fn.ntmps)(hname:B8 fn=true)(h:retR P fn.results.toList (den rc P c (ji vs) s)= .ok v s')(hvs: ∀x∈vs,x.ok∧x≠ .und)(hs:SOK D s):CallOk D P f vs s v s':=by
 obtain⟨x,e1,s1,hden,hx,hret⟩:=Wt h
 obtain⟨hall,rfl,hv⟩:=OJ hret
 have hslots: ∀t,(slot (ji vs) t).ok:=fun t=>by
  rw[Ej]
  split
  ·cases hq:vs[t]? with
   |none=>rw[K1 hq];exact trivial
   |some y=>rw[GO hq];exact(hvs y (q1l hq)).1
  ·exact trivial
 have eok: ∀E:Env,E.Ks=B5 s.m→EOK D E s.nx.num (ji vs) s:=fun E hE=>by
  refine⟨hslots,hs,q1G _,fun k hk=>?_,fun k hk=> .inl ?_⟩
  ·rw[hE]at hk
   obtain⟨q,b,rfl,hb⟩:=zI.1 hk
   exact hs.lt q (by rw[hb];simp)
  ·rw[hE]
   cases hq:mget s.m k with
   |none=>exact absurd hq hk
   |some b=>exact zI.2 ⟨k,b,rfl,hq⟩
 have hge: ∀k∈B5 s.m,100000≤k:=fun k hk=>by
  obtain⟨q,b,rfl,_⟩:=zI.1 hk
  exact q.num_ge
 have main: ∀(w:World)(H:Heap)(β:Bm),EOK D ⟨w,H,β,B5 s.m,fn.ntmps,hge⟩ s.nx.num e1 s'∧s.nx.num≤s'.nx.num∧
   ∀a w' H' β',Rel D ⟨w,H,β,B5 s.m,fn.ntmps,hge⟩ s.nx.num s'.nx.num (ji vs) s a w' H' β'→c.wp P (Ds D ⟨w,H,β,B5 s.m,fn.ntmps,hge⟩ s.nx.num s'.nx.num x e1 s') a w':=
  fun w H β=>zp hrc hm c _ fn.ntmps s.nx.num s'.nx.num (ji vs) s x e1 s' rfl hk hden (eok _ rfl) (q1G _)
 obtain⟨he1,hle,_⟩:=main default (fun _=>none) (fun _=>none)
 have hvo:v.ok∧v≠ .und:=by
  have hok: ∀y∈fn.results.toList.map (v9 P e1 s'.m),y.okC:=by
   intro y hy
   have hc:=List.all_eq_true.1 hall y hy
   obtain⟨r,_,rfl⟩:=List.mem_map.1 hy
   cases r with
   |tmp t=>exact Ao hc (he1.slots t)
   |cell a t=>
    have hne:jb P s'.m t (slot e1 a)≠ .bad:=fun e2=>by
     have h2:isC (jb P s'.m t (slot e1 a)).res=true:=hc
     rw[e2]at h2;cases h2
    exact(JP (D:=D) rfl hne he1.sok.ok).1
  rcases hv with⟨y,e2,rfl⟩|⟨_,rfl⟩
  ·have:=hok v (by rw[e2];simp)
   exact⟨V.okC_ok this,vF this⟩
  ·exact⟨hok,by simp⟩
 refine⟨by unfold callable;rw[hf];simp[hb];unfold B8 at hname;simpa using hname,he1.sok,hle,hvo.1,hvo.2,?_,?_⟩
 ·intro k hk
  rcases he1.old k hk with h1|h1
  ·obtain⟨q,b,e2,hb⟩:=zI.1 h1
   have:=Key.num_inj e2
   subst this
   exact .inl (by rw[hb];simp)
  ·exact .inr h1
 ·intro us w H β hargs hM hon hdom
  have hrep:RepF ⟨w,H,β,B5 s.m,fn.ntmps,hge⟩ (qr D (ji vs) s.m) {tmps:=us.toArray++Array.replicate (fn.ntmps-us.toArray.size) undef,defers:=[]} w H β:=by
   have hvl:=AVs.length hargs
   simp only[q1c]at hvl
   refine⟨rfl,?_,?_,?_,?_,?_,fun _ _=>rfl,rfl,rfl,rfl,q1G _,fun _ _ _=>rfl,Heap.Le.refl _,fun b hb=> .inl hb,hon⟩
   ·simp;omega
   ·intro t av ht
    rw[qH,Ej]at ht
    cases hq:vs[t]? with
    |none=>rw[K1 hq]at ht;split at ht<;>cases ht
    |some y=>
     have hlt:t<vs.length:=by
      rcases q1K t vs.length with h|h
      ·exact h
      ·rw[q16 h]at hq;cases hq
     rw[if_pos (by omega),GO hq]at ht
     have hy:=hvs y (q1l hq)
     obtain⟨u,hu,hs⟩:=AVs.get t hargs (a:=qk D y) (by simp[hq])
     refine⟨u,?_,?_⟩
     ·rw[Array.getElem?_append_left (by simp;omega)]
      simpa using hu
     ·rcases V.av_or (D:=D) y with e2|⟨l,e2⟩|e2
      ·exact absurd e2 hy.2
      ·subst e2;cases ht;exact hs
      ·rw[qk,e2]at hs;rw[e2]at ht;cases ht;exact hs
   ·intro k b hb'
    rw[qj]at hb'
    cases hl:mblk s.m k with
    |none=>rw[hl]at hb';cases hb'
    |some x=>
     rw[hl]at hb';simp at hb';subst hb'
     obtain⟨q,rfl,hq⟩:=vR hl
     exact hM.rep q x hq
   ·intro k x b c hx' hβ
    rw[qj]at hx'
    cases hl:mblk s.m k with
    |none=>rw[hl]at hx';cases hx'
    |some y=>
     obtain⟨q,rfl,hq⟩:=vR hl
     obtain⟨h1,h2⟩:=hM.own q y hq b c hβ
     exact⟨h1,h2,.inr ⟨_,zI.2 ⟨q,y,rfl,hq⟩,c,hβ⟩⟩
   ·intro k k' x x' b c c' hx1 hx2 hne hβ
    rw[qj]at hx1 hx2
    cases hl:mblk s.m k with
    |none=>rw[hl]at hx1;cases hx1
    |some y=>
     cases hl':mblk s.m k' with
     |none=>rw[hl']at hx2;cases hx2
     |some y'=>
      obtain⟨q,rfl,hq⟩:=vR hl
      obtain⟨q',rfl,hq'⟩:=vR hl'
      exact hM.inj q q' y y' hq hq' (fun e=>hne (by rw[e])) b c c' hβ
  obtain⟨_,_,hwp⟩:=main w H β
  refine calls_of_wp hf hb (wp_mono (hwp _ w H β ⟨hrep,hdom,fun k _=>rfl⟩) ?_)
  rintro ex a w' ⟨rfl,H',β',hr⟩
  obtain⟨u,hu,hsat⟩:=Wu (P:=P) hr.rep he1.sok.ok he1.slots hret
  have hpost: ∃u' H' β',Ending.returned u= .returned u'∧Sim s.m s'.m s.nx.num s'.nx.num w H β w' H' β'∧(qk D v).sat β' H' u'∧MRep D s'.m w' H' β':=by
   refine⟨u,H',β',rfl,⟨hr.rep.os,hr.rep.tape,hr.rep.output,hr.rep.wsize,?_,hr.rep.hle,hr.rep.hnew,hr.rep.hon,fun k hk=>hr.bet k hk,?_⟩,hsat,⟨?_,?_,?_⟩⟩
   ·intro b hb hk
    refine hr.rep.frame b hb fun k hk' c=>?_
    obtain⟨q,y,rfl,hq⟩:=zI.1 hk'
    exact hk q (by rw[hq];simp) c
   ·intro k b hb bb c hβ
    obtain⟨_,_,h3⟩:=hr.rep.own k.num _ bb c (jJ (D:=D) (e:=e1) hb) hβ
    rcases h3 with h3|⟨k0,hk0,c0,h3⟩
    ·exact .inl h3
    ·obtain⟨q,y,rfl,hq⟩:=zI.1 hk0
     exact .inr ⟨q,by rw[hq];simp,c0,h3⟩
   ·intro k b hb;exact hr.rep.blk k.num _ (jJ hb)
   ·intro k b hb bb c hβ
    obtain⟨h1,h2,_⟩:=hr.rep.own k.num _ bb c (jJ (D:=D) (e:=e1) hb) hβ
    exact⟨h1,h2⟩
   ·intro k k' b b' hb hb' hne bb c c' hβ
    exact hr.rep.inj k.num k'.num _ _ bb c c' (jJ (D:=D) (e:=e1) hb) (jJ (D:=D) (e:=e1) hb') (fun e=>hne (Key.num_inj e)) hβ
  rcases hx with rfl|rfl
  ·exact⟨hr.rep.defers,u,hu,hpost⟩
  ·exact⟨hr.rep.defers,u,hu,hpost⟩
def Ex(D:List Int)(P:Program)(pr:vH):Prop:= ∀f g,pr f=some g→ ∀vs s v s',g vs s= .ok v s'→(∀x∈vs,x.ok∧x≠ .und)→SOK D s→CallOk D P f vs s v s'
theorem Lh{pr:vH}(hpr:Ex D P pr)(hm:P.follows .mixedOrders=true): ∀n,RcOk D P (Dz P pr n)
 |0=>fun f vs s v s' h _ _=>by cases h
 |n+1=>fun f vs s v s' h hvs hs=>by
  have h':(match pr f with
   |some g=>addT f (g vs s)
   |none=>(match P.funcs[f]? with
    |some fn=>(match fn.body with
     |some c=> @Bool.rec (fun _=>RO) (.no [17]) (addT f (retR P fn.results.toList (den (Dz P pr n) P c (ji vs) s))) (jB fn.ntmps c&&Nat.ble vs.length 16&&Nat.ble vs.length fn.ntmps&&B8 fn)
     |none=> .no [15])
    |none=> .no [16]))=RO.ok v s':=h
  split at h'
  ·rename_i g hg
   exact hpr f g hg vs s v s' (NH h') hvs hs
  ·split at h'
   ·rename_i fn hf
    split at h'
    ·rename_i c hb
     cases hc:jB fn.ntmps c&&Nat.ble vs.length 16&&Nat.ble vs.length fn.ntmps&&B8 fn with
     |false=>rw[hc]at h';cases h'
     |true=>
      rw[hc]at h'
      simp only[q0P]at hc
      exact XD (Lh hpr hm n) hm hf hb hc.1.1.1 (q1D hc.1.1.2) (q1D hc.1.2) hc.2 (NH h') hvs hs
    ·cases h'
   ·cases h'
end
end
noncomputable section
section
variable {v2:V} {s2:S}
theorem jx{a b:Bool}:jh a b=true↔a=true∧b=true:=by cases a<;>cases b<;>simp[jh]
theorem Oc(a b:IntKind):keqF a b=keq a b:=by cases a<;>cases b<;>rfl
theorem Oa(k:IntKind):kLim k=lim k:=by cases k<;>rfl
theorem J7(a:Bool):notB a=!a:=by cases a<;>rfl
theorem Ie{x:V}{f:IntKind→Nat→RO}{z:V→RO}(h:qNN x f z= .ok v2 s2):(∃k n,x= .nn k n∧f k n= .ok v2 s2)∨((∀k n,x≠ .nn k n)∧z x= .ok v2 s2):=by
 cases x<;>first|exact .inl ⟨_,_,rfl,h⟩|exact .inr ⟨by simp,h⟩
theorem UH{x:V}{f:Nat→RO}(h:qN x f= .ok v2 s2): ∃k n,x= .nn k n∧f n= .ok v2 s2:=by
 cases x<;>first|exact⟨_,_,rfl,h⟩|cases h
theorem Ec{x:V}{f:Key→Nat→RO}{g:Key→Nat→Nat→Nat→RO}(h:qP x f g= .ok v2 s2):(∃k o,x= .pp k o∧f k o= .ok v2 s2)∨(∃k i o w,x= .ee k i o w∧g k i o w= .ok v2 s2):=by
 cases x<;>first|exact .inl ⟨_,_,rfl,h⟩|exact .inr ⟨_,_,_,_,rfl,h⟩|cases h
theorem UI{x:V}{f:Key→Nat→Nat→Nat→Nat→RO}{g:Key→Nat→Nat→Nat→RO}{z:V→RO}(h:qS x f g z= .ok v2 s2):
  (∃k lo n c w,x= .sl k lo n c w∧f k lo n c w= .ok v2 s2)∨(∃k lo n w,x= .gs k lo n w∧g k lo n w= .ok v2 s2)∨z x= .ok v2 s2:=by
 cases x<;>first|exact .inl ⟨_,_,_,_,_,rfl,h⟩|exact .inr (.inl ⟨_,_,_,_,rfl,h⟩)|exact .inr (.inr h)
theorem PX{x:V}{f:Bool→RO}(h:qB x f= .ok v2 s2): ∃b,x= .bb b∧f b= .ok v2 s2:=by cases x<;>first|exact⟨_,rfl,h⟩|cases h
theorem q0q{x:V}{f:Bool→RO}{z:RO}(h:qG x f z= .ok v2 s2):(∃b,x= .bb b∧f b= .ok v2 s2)∨(x= .tu []∧z= .ok v2 s2):=by
 cases x with
 |bb b=>exact .inl ⟨b,rfl,h⟩
 |tu l=>cases l with
  |nil=>exact .inr ⟨rfl,h⟩
  |cons _ _=>cases h
 |_=>cases h
theorem UG{x:V}{z:RO}(h:qD x z= .ok v2 s2):x≠ .und∧z= .ok v2 s2:=by cases x<;>first|exact⟨by simp,h⟩|cases h
theorem AU{x:V}{f:V→RO}(h:qF x f= .ok v2 s2):x≠ .und∧f x= .ok v2 s2:=by cases x<;>first|exact⟨by simp,h⟩|cases h
theorem PY{x:V}{f:V→RO}(h:qK x f= .ok v2 s2):isC x=true∧f x= .ok v2 s2:=by cases x<;>first|exact⟨rfl,h⟩|cases h
theorem q0r{x:V}{f:List V→RO}(h:qT x f= .ok v2 s2): ∃l,x= .tu l∧f l= .ok v2 s2:=by cases x<;>first|exact⟨_,rfl,h⟩|cases h
theorem vk{b:Bool}{t:List Nat}{z:RO}(h: @Bool.rec (fun _=>RO) (.no t) z b= .ok v2 s2):b=true∧z= .ok v2 s2:=by cases b<;>first|exact⟨rfl,h⟩|cases h
theorem Lg{b:Bool}{t:List Nat}{z:RO}(h: @Bool.rec (fun _=>RO) z (.no t) b= .ok v2 s2):b=false∧z= .ok v2 s2:=by cases b<;>first|exact⟨rfl,h⟩|cases h
theorem q0s{x:V}{s:Nat}{y z:RO}(h:qX x s y z= .ok v2 s2):isC x=true∧x.size=s∧((x.un=true∧y= .ok v2 s2)∨z= .ok v2 s2):=by
 cases x with
 |und=>cases h
 |tu l=>cases h
 |ag w l=>obtain⟨h1,h2⟩:=vk h;exact⟨rfl,q1B h1,.inr h2⟩
 |_=>obtain⟨h1,h2⟩:=vk h;exact⟨rfl,q1B h1,.inl ⟨rfl,h2⟩⟩
theorem HW{k:IntKind}{c:Nat}{K:V→RO}(h:nnK k c K= .ok v2 s2):K (nnW k c)= .ok v2 s2:=by
 unfold nnK at h
 cases hb:Nat.blt c (kLim k)with
 |true=>
  rw[hb]at h
  unfold nnW
  rw[←Oa,hb];exact h
 |false=>rw[hb]at h;exact h
theorem V5{op:BinOp}{k:IntKind}{a b:Nat}{K:V→RO}(h:(binH op).f k a b K= .ok v2 s2):binN op k a b≠ .und∧K (binN op k a b)= .ok v2 s2:=by
 have hw: ∀c,nnW k c≠ .und:=fun c=>by
  have:=(C4 [] k c).1
  intro e;rw[e]at this;cases this
 cases op with
 |add=>exact⟨hw _,HW h⟩
 |mul=>exact⟨hw _,HW h⟩
 |sub=>
  have h: @Bool.rec (fun _=>RO) (qF (binI .sub k a b) K) (K (.nn k (Nat.sub a b))) (jh (Nat.ble b a) (Nat.blt a (kLim k)))= .ok v2 s2:=h
  have e:jh (Nat.ble b a) (Nat.blt a (kLim k))=(Nat.ble b a&&Nat.blt a (lim k)):=by rw[Oa];cases Nat.ble b a<;>rfl
  rw[e]at h
  show @Bool.rec (fun _=>V) (binI .sub k a b) (.nn k (Nat.sub a b)) (Nat.ble b a&&Nat.blt a (lim k))≠ .und∧K (@Bool.rec (fun _=>V) (binI .sub k a b) (.nn k (Nat.sub a b)) (Nat.ble b a&&Nat.blt a (lim k)))=_
  cases hb:Nat.ble b a&&Nat.blt a (lim k)with
  |true=>rw[hb]at h;exact⟨by simp,h⟩
  |false=>rw[hb]at h;exact AU h
 |quo=>
  obtain⟨h1,h2⟩:=Lg h
  have e:binN .quo k a b=nnW k (Nat.div a b):=by show @Bool.rec (fun _=>V) _ _ (Nat.beq b 0)=_;rw[h1]
  rw[e];exact⟨hw _,HW h2⟩
 |rem=>
  obtain⟨h1,h2⟩:=Lg h
  have e:binN .rem k a b= .nn k (Nat.mod a b):=by show @Bool.rec (fun _=>V) _ _ (Nat.beq b 0)=_;rw[h1]
  rw[e];exact⟨by simp,h2⟩
 |eql=>exact⟨by simp[binN],h⟩
 |neq=>have h:K (.bb (notB (Nat.beq a b)))=_:=h;rw[J7]at h;exact⟨by simp[binN],h⟩
 |lss=>exact⟨by simp[binN],h⟩
 |leq=>exact⟨by simp[binN],h⟩
 |gtr=>exact⟨by simp[binN],h⟩
 |geq=>exact⟨by simp[binN],h⟩
 |_=>exact AU h
theorem M6(m:qV)(k:Key):zh m k=mget m k:=by
 have e4: ∀(d:D16)(m:qV),mg4 d m=m.get d:=by intro d m;cases d<;>rfl
 have e3: ∀(d:D16) m,mg3 d m=N16.get m d:=by intro d m;cases d<;>rfl
 have e2: ∀(d:D16) m,mg2 d m=N16.get m d:=by intro d m;cases d<;>rfl
 have e1: ∀(d:D16) m,mg1 d m=N16.get m d:=by intro d m;cases d<;>rfl
 obtain⟨a,b,c,d⟩:=k
 show mg1 d (mg2 c (mg3 b (mg4 a m)))=_
 rw[e1,e2,e3,e4];rfl
theorem M9(m:qV)(k:Key)(v:Option KB):Aq m k v=mset m k v:=by
 have e4: ∀(d:D16)(m:qV),mg4 d m=m.get d:=by intro d m;cases d<;>rfl
 have e3: ∀(d:D16) m,mg3 d m=N16.get m d:=by intro d m;cases d<;>rfl
 have e2: ∀(d:D16) m,mg2 d m=N16.get m d:=by intro d m;cases d<;>rfl
 have s4: ∀(d:D16)(m:qV) x,ms4 d m x=m.set d x:=by intro d m x;cases d<;>rfl
 have s3: ∀(d:D16) m x,ms3 d m x=N16.set m d x:=by intro d m x;cases d<;>rfl
 have s2: ∀(d:D16) m x,ms2 d m x=N16.set m d x:=by intro d m x;cases d<;>rfl
 have s1: ∀(d:D16) m x,ms1 d m x=N16.set m d x:=by intro d m x;cases d<;>rfl
 obtain⟨a,b,c,d⟩:=k
 show ms4 a m (ms3 b (mg4 a m) (ms2 c (mg3 b (mg4 a m)) (ms1 d (mg2 c (mg3 b (mg4 a m))) v)))=_
 rw[s4,s3,s2,s1,e2,e3,e4];rfl
theorem Bz{v:V}{l a c:List V}{o:Nat}(hw:v.wd≤o)(h0:0<o)(h:cut l (o-v.wd)=some (a,c)):cut (v::l) o=some (v::a,c):=by
 obtain⟨p,rfl⟩: ∃p,o=p+1:=⟨o-1,by omega⟩
 rw[Lt,if_pos hw,h]
theorem NQ{v:V}(l:List V)(h:v.wd=1):cut (v::l) 1=some ([v],l):=Bz (by omega) (by omega) (by rw[h];exact wW l)
theorem Z5{v:V}{f:V→RO}(h:uAt v f= .ok v2 s2): ∃u r,f u= .ok v2 s2∧u.on=true∧ ∀l,cut (v::l) 1=some ([u],r++l):=by
 cases v with
 |und=>cases h
 |tu l=>cases h
 |ag w l=>cases h
 |qq s n d=>exact⟨.bb s,[.mg n,.mg (if d=1 then 0 else d)],h,rfl,fun l=>rfl⟩
 |_=>exact⟨_,[],h,rfl,fun l=>NQ l rfl⟩
theorem ifbeq(d:Nat):(@Bool.rec (fun _=>Nat) d 0 (Nat.beq d 1))=if d=1 then 0 else d:=by
 by_cases h:d=1
 ·subst h;rfl
 ·rw[jf h,if_neg h]
theorem Rh: ∀{l:List V}{o:Nat}{f:V→RO},ldL l o f= .ok v2 s2→ ∃a u r,f u= .ok v2 s2∧u.on=true∧carve l o 1=some (a,[u],r)
 |[],o,f,h=>by cases h
 |v::l,0,f,h=>by
  obtain⟨u,r,h1,h2,h3⟩:=Z5 (show uAt v f= .ok v2 s2 from h)
  refine⟨[],u,r++l,h1,h2,?_⟩
  unfold carve
  rw[wW]
  simp only
  rw[h3]
 |v::l,p+1,f,h=>by
  have h:CI v (fun q=>ldL l q f) p f= .ok v2 s2:=h
  have step:v.wd≤p+1→ldL l (p+1-v.wd) f= .ok v2 s2→ ∃a u r,f u= .ok v2 s2∧u.on=true∧carve (v::l) (p+1) 1=some (a,[u],r):=by
   intro hw h
   obtain⟨a,u,r,h1,h2,h3⟩:=Rh h
   unfold carve at h3
   split at h3
   ·rename_i a' c hc
    split at h3
    ·rename_i m' r' hc2
     cases h3
     refine⟨v::a,u,r,h1,h2,?_⟩
     unfold carve
     rw[Bz hw (by omega) hc]
     simp only
     rw[hc2]
    ·cases h3
   ·cases h3
  cases v with
  |und=>cases h
  |tu l=>cases h
  |ag w l=>cases h
  |qq s n d=>
   match p,h,step with
   |0,h,step=>exact⟨[.bb s],.mg n,.mg (if d=1 then 0 else d)::l,h,rfl,rfl⟩
   |1,h,step=>
    have h:f (.mg (@Bool.rec (fun _=>Nat) d 0 (Nat.beq d 1)))= .ok v2 s2:=h
    rw[ifbeq]at h
    exact⟨[.bb s,.mg n],.mg (if d=1 then 0 else d),l,h,rfl,by
    unfold carve
    have e:cut (V.qq s n d::l) (1+1)=some ([.bb s,.mg n],.mg (if d=1 then 0 else d)::l):=rfl
    rw[e]
    simp only
    rw[NQ l rfl]⟩
   |q+2,h,step=>exact step (by show 3≤q+2+1;omega) h
  |_=>exact step (by show 1≤p+1;omega) h
theorem VN{v u:V}{o:Nat}{a r:List V}(ks:List (Key×KB))(h:carve v.us o 1=some (a,[u],r))(hu:u.on=true):ldS false 1 v o ks= .val u ks:=by
 unfold ldS
 rw[h]
 simp only
 have:mkV false 1 [u]=u:=by show @Bool.rec (fun _=>V) .und u u.on=u;rw[hu]
 rw[this]
 cases u<;>first|rfl|cases hu
theorem DU{v u:V}{o:Nat}{a r:List V}(ks:List (Key×KB))(h1:(Nat.beq o 0&&Nat.beq 1 v.size&&xorB false v.on)=false)(h2:carve v.us o 1=some (a,[u],r))(h3:u.on=true):ldG false 1 v o ks= .val u ks:=by
 unfold ldG
 rw[h1];exact VN ks h2 h3
theorem LW{v:V}{o:Nat}{f:V→RO}(ks:List (Key×KB))(h:ld1 v o f= .ok v2 s2): ∃u,u≠ .und∧f u= .ok v2 s2∧ldG false 1 v o ks= .val u ks:=by
 have one: ∀{x:V},x.on=true→v=x→(@Nat.rec (fun _=>RO) (f x) (fun _ _=> .no [94]) o= .ok v2 s2)→ ∃u,u≠ .und∧f u= .ok v2 s2∧ldG false 1 v o ks= .val u ks:=by
  intro x hx e h
  subst e
  cases o with
  |succ p=>cases h
  |zero=>
   refine⟨v,okC_ne' hx,h,?_⟩
   unfold ldG
   have:(Nat.beq 0 0&&Nat.beq 1 v.size&&xorB false v.on)=true:=by
    rw[hx]
    have:v.size=1:=by cases v<;>first|rfl|cases hx
    rw[this];rfl
   rw[this]
 cases v with
 |und=>cases h
 |tu l=>cases h
 |ag w l=>
  obtain⟨a,u,r,h1,h2,h3⟩:=Rh (show ldL l o f= .ok v2 s2 from h)
  exact⟨u,okC_ne' h2,h1,DU ks (by simp[V.on,xorB]) h3 h2⟩
 |qq s n d=>
  match o,h with
  |0,h=>exact⟨.bb s,by simp,h,DU ks rfl (a:=[]) (r:=[.mg n,.mg (if d=1 then 0 else d)]) rfl rfl⟩
  |1,h=>exact⟨.mg n,by simp,h,DU ks rfl (a:=[.bb s]) (r:=[.mg (if d=1 then 0 else d)]) rfl rfl⟩
  |2,h=>
   have h:f (.mg (@Bool.rec (fun _=>Nat) d 0 (Nat.beq d 1)))= .ok v2 s2:=h
   rw[ifbeq]at h
   exact⟨_,by simp,h,DU ks rfl (a:=[.bb s,.mg n]) (r:=[]) rfl rfl⟩
  |o+3,h=>cases h
 |_=>exact one rfl rfl h
where okC_ne' {v:V} (h:v.on=true):v≠ .und:=fun e=>by subst e;cases h
theorem VO{g:Bool}{s:Nat}{v:V}{o:Nat}(ks:List (Key×KB))(h:(ldS g s v o []).res≠ .und):ldS g s v o ks= .val (ldS g s v o []).res ks:=by
 unfold ldS at h⊢
 cases hc:carve v.us o s with
 |none=>rw[hc]at h;exact absurd rfl h
 |some p=>
  obtain⟨a,l,r⟩:=p
  rw[hc]at h
  simp only at h⊢
  cases hm:mkV g s l<;>first|(rw[hm]at h;exact absurd rfl h)|rfl
theorem IX: ∀{l:List V}{o:Nat}{f:V→RO}{z:RO},ldL3 l o f z= .ok v2 s2→(∃a u r,f u= .ok v2 s2∧(∃s n d,u= .qq s n d)∧carve l o 3=some (a,[u],r))∨z= .ok v2 s2
 |[],o,f,z,h=> .inr h
 |v::l,0,f,z,h=>by
  cases v with
  |qq s n d=>
   refine .inl ⟨[],.qq s n d,l,h,⟨s,n,d,rfl⟩,?_⟩
   unfold carve
   rw[wW]
   simp only
   rw[Bz (v:= .qq s n d) (q1G 3) (by omega) (wW l)]
  |_=>exact .inr h
 |v::l,p+1,f,z,h=>by
  have step:v.wd≤p+1→ldL3 l (p+1-v.wd) f z= .ok v2 s2→(∃a u r,f u= .ok v2 s2∧(∃s n d,u= .qq s n d)∧carve (v::l) (p+1) 3=some (a,[u],r))∨z= .ok v2 s2:=by
   intro hw h
   rcases IX h with⟨a,u,r,h1,h2,h3⟩|h
   ·left
    unfold carve at h3
    split at h3
    ·rename_i a' c hc
     split at h3
     ·rename_i m' r' hc2
      cases h3
      refine⟨v::a,u,r,h1,h2,?_⟩
      unfold carve
      rw[Bz hw (by omega) hc]
      simp only
      rw[hc2]
     ·cases h3
    ·cases h3
   ·exact .inr h
  cases v with
  |und=>exact .inr h
  |tu l=>exact .inr h
  |ag w l=>exact .inr h
  |qq s n d=>
   match p,h,step with
   |0,h,step=>exact .inr h
   |1,h,step=>exact .inr h
   |q+2,h,step=>exact step (by show 3≤q+2+1;omega) h
  |_=>exact step (by show 1≤p+1;omega) h
theorem LX{v:V}{s o:Nat}{K:V→RO}(ks:List (Key×KB))(h:ldA v s o K (qF (ldS true s v o []).res K)= .ok v2 s2): ∃u,u≠ .und∧K u= .ok v2 s2∧ldG true s v o ks= .val u ks:=by
 have slow:(Nat.beq o 0&&Nat.beq s v.size&&xorB true v.on)=false→qF (ldS true s v o []).res K= .ok v2 s2→ ∃u,u≠ .und∧K u= .ok v2 s2∧ldG true s v o ks= .val u ks:=by
  intro h1 h2
  obtain⟨q1,q2⟩:=AU h2
  refine⟨_,q1,q2,?_⟩
  unfold ldG
  rw[h1];exact VO ks q1
 cases v with
 |und=>cases h
 |tu l=>cases h
 |ag w l=>
  have h: @Bool.rec (fun _=>RO) (@Bool.rec (fun _=>RO) _ (ldL3 l o K _) (Nat.beq s 3)) (K (.ag w l)) (@Bool.rec (fun _=>Bool) false (Nat.beq s w) (Nat.beq o 0))= .ok v2 s2:=h
  cases ho:Nat.beq o 0 with
  |true=>
   rw[ho]at h
   cases hs:Nat.beq s w with
   |true=>
    rw[hs]at h
    refine⟨.ag w l,by simp,h,?_⟩
    unfold ldG
    have:(Nat.beq o 0&&Nat.beq s (V.ag w l).size&&xorB true (V.ag w l).on)=true:=by
     show(Nat.beq o 0&&Nat.beq s w&&true)=true;rw[ho,hs];rfl
    rw[this]
   |false=>
    rw[hs]at h
    have hc:(Nat.beq o 0&&Nat.beq s (V.ag w l).size&&xorB true (V.ag w l).on)=false:=by
     show(Nat.beq o 0&&Nat.beq s w&&true)=false;rw[hs];simp
    cases h3:Nat.beq s 3 with
    |false=>rw[h3]at h;exact slow hc h
    |true=>
     rw[h3]at h
     have h3:=q1B h3
     subst h3
     rcases IX h with⟨a,u,r,h1,⟨sg,n,d,rfl⟩,h4⟩|h
     ·refine⟨_,by simp,h1,?_⟩
      unfold ldG
      rw[hc]
      show ldS true 3 (.ag w l) o ks=_
      unfold ldS
      rw[show(V.ag w l).us=l from rfl,h4];rfl
     ·exact slow hc h
  |false=>
   rw[ho]at h
   have hc:(Nat.beq o 0&&Nat.beq s (V.ag w l).size&&xorB true (V.ag w l).on)=false:=by rw[ho];rfl
   cases h3:Nat.beq s 3 with
   |false=>rw[h3]at h;exact slow hc h
   |true=>
    rw[h3]at h
    have h3:=q1B h3
    subst h3
    rcases IX h with⟨a,u,r,h1,⟨sg,n,d,rfl⟩,h4⟩|h
    ·refine⟨_,by simp,h1,?_⟩
     unfold ldG
     rw[hc]
     show ldS true 3 (.ag w l) o ks=_
     unfold ldS
     rw[show(V.ag w l).us=l from rfl,h4];rfl
    ·exact slow hc h
 |qq sg n d=>
  have h: @Bool.rec (fun _=>RO) _ (K (.qq sg n d)) (@Bool.rec (fun _=>Bool) false (Nat.beq s 3) (Nat.beq o 0))= .ok v2 s2:=h
  cases ho:Nat.beq o 0 with
  |true=>
   rw[ho]at h
   cases hs:Nat.beq s 3 with
   |true=>
    rw[hs]at h
    refine⟨_,by simp,h,?_⟩
    unfold ldG
    have:(Nat.beq o 0&&Nat.beq s (V.qq sg n d).size&&xorB true (V.qq sg n d).on)=true:=by
     show(Nat.beq o 0&&Nat.beq s 3&&true)=true;rw[ho,hs];rfl
    rw[this]
   |false=>
    rw[hs]at h
    exact slow (by show(Nat.beq o 0&&Nat.beq s 3&&true)=false;rw[hs];simp) h
  |false=>rw[ho]at h;exact slow (by rw[ho];rfl) h
 |_=>exact slow (by simp[V.on,xorB]) h
theorem Mt{g:Bool}{s:Nat}{v:V}{o:Nat}{K:V→RO}(ks:List (Key×KB))(hs:g=false→s=1)(h:wC g s v o K= .ok v2 s2): ∃u,u≠ .und∧K u= .ok v2 s2∧ldG g s v o ks= .val u ks:=by
 cases g with
 |true=>exact LX ks h
 |false=>have:=hs rfl;subst this;exact LW ks h
theorem LS{b:Option KB}{f:V→RO}(h:kbB b f= .ok v2 s2): ∃v,b=some (.bx v)∧f v= .ok v2 s2:=by
 cases b with
 |none=>cases h
 |some b=>cases b<;>first|exact⟨_,rfl,h⟩|cases h
theorem LT{b:Option KB}{f g:Nat→Nat→Sq V→RO}(h:kbR b f g= .ok v2 s2):(∃es n q,b=some (.arr es n q)∧f es n q= .ok v2 s2)∨(∃es n q,b=some (.gro es n q)∧g es n q= .ok v2 s2):=by
 cases b with
 |none=>cases h
 |some b=>cases b<;>first|exact .inl ⟨_,_,_,rfl,h⟩|exact .inr ⟨_,_,_,rfl,h⟩|cases h
theorem FL {P : Program} {t : TypeId} {g : Bool} {s : Nat} {m : qV} {p : V} {K : V → RO} {part : V → Nat → RO} (hs : qA P t = some (g, s))
  (hp : ∀ v o ks, part v o = .ok v2 s2 → ∃ u, u ≠ .und ∧ K u = .ok v2 s2 ∧ ldG g s v o ks = .val u ks)
  (h : qP p (fun k o => kbB (zh m k) fun v => part v o)
   (fun k i o w => kbR (zh m k) (fun es n q => @Bool.rec (fun _ => RO) (.no [98]) (part (Sq.get .und q i) o) (jh (Nat.beq w es) (Nat.blt i n)))
    (fun es n q => @Bool.rec (fun _ => RO) (.no [98]) (part (Sq.get .und q i) o) (jh (Nat.beq w es) (Nat.blt i n)))) = .ok v2 s2) :
  ∃ u ks, u ≠ .und ∧ K u = .ok v2 s2 ∧ jb P m t p = .val u ks := by
 have hv : ∀ v o ks, ldV P t v o ks = ldG g s v o ks := fun v o ks => by unfold ldV; rw [hs]
 rcases Ec h with ⟨k, o, e, h'⟩ | ⟨k, i, o, w, e, h'⟩ <;> subst e <;> rw [M6] at h'
 ·obtain ⟨v, hb, h'⟩ := LS h'
  obtain ⟨u, h1, h2, h3⟩ := hp v o [(k, .bx v)] h'
  refine ⟨u, [(k, .bx v)], h1, h2, ?_⟩
  simp only [jb, hb]
  rw [hv]; exact h3
 ·rcases LT h' with ⟨es, n, q, hb, h'⟩ | ⟨es, n, q, hb, h'⟩ <;> obtain ⟨hc, h'⟩ := vk h'
  ·obtain ⟨u, h1, h2, h3⟩ := hp _ o [(k, .arr es n q)] h'
   refine ⟨u, [(k, .arr es n q)], h1, h2, ?_⟩
   simp only [jb, hb]
   rw [jx] at hc
   rw [hc.1, hc.2, hv]; exact h3
  ·obtain ⟨u, h1, h2, h3⟩ := hp _ o [(k, .gro es n q)] h'
   refine ⟨u, [(k, .gro es n q)], h1, h2, ?_⟩
   simp only [jb, hb]
   rw [jx] at hc
   rw [hc.1, hc.2, hv]; exact h3
theorem q0F{x:V}(h:x.un=true):x.us=[x]:=by cases x<;>first|rfl|cases h
theorem Se{x:V}: ∀{l:List V}{o w:Nat}{f:List V→RO}{z:RO},stL l o x w f z= .ok v2 s2→(∃a u r,f (a++x::r)= .ok v2 s2∧carve l o w=some (a,[u],r))∨z= .ok v2 s2
 |[],o,w,f,z,h=> .inr h
 |v::l,0,w,f,z,h=>by
  have h:CJ v w (f (x::l)) z= .ok v2 s2:=h
  have key: ∀n:Nat,v.wd=n→0<n→(@Bool.rec (fun _=>RO) z (f (x::l)) (Nat.beq w n))= .ok v2 s2→(∃a u r,f (a++x::r)= .ok v2 s2∧carve (v::l) 0 w=some (a,[u],r))∨z= .ok v2 s2:=by
   intro n hn h0 h
   cases hb:Nat.beq w n with
   |false=>rw[hb]at h;exact .inr h
   |true=>
    rw[hb]at h
    have:=q1B hb
    subst this
    refine .inl ⟨[],v,l,h,?_⟩
    unfold carve
    rw[wW]
    simp only
    rw[Bz (Nat.le_of_eq hn) h0 (by rw[hn,Nat.sub_self];exact wW l)]
  cases v with
  |und=>exact .inr h
  |tu l=>exact .inr h
  |ag w l=>exact .inr h
  |qq s n d=>exact key 3 rfl (by omega) h
  |_=>exact key 1 rfl (by omega) h
 |v::l,p+1,w,f,z,h=>by
  have h:CL v p (fun q=>stL l q x w (fun l=>f (v::l)) z) z= .ok v2 s2:=h
  have step:v.wd≤p+1→stL l (p+1-v.wd) x w (fun l=>f (v::l)) z= .ok v2 s2→(∃a u r,f (a++x::r)= .ok v2 s2∧carve (v::l) (p+1) w=some (a,[u],r))∨z= .ok v2 s2:=by
   intro hw h
   rcases Se h with⟨a,u,r,h1,h3⟩|h
   ·left
    unfold carve at h3
    split at h3
    ·rename_i a' c hc
     split at h3
     ·rename_i m' r' hc2
      cases h3
      refine⟨v::a,u,r,h1,?_⟩
      unfold carve
      rw[Bz hw (by omega) hc]
      simp only
      rw[hc2]
     ·cases h3
    ·cases h3
   ·exact .inr h
  cases v with
  |und=>exact .inr h
  |tu l=>exact .inr h
  |ag w l=>exact .inr h
  |qq s n d=>
   match p,h,step with
   |0,h,step=>exact .inr h
   |1,h,step=>exact .inr h
   |q+2,h,step=>exact step (by show 3≤q+2+1;omega) h
  |_=>exact step (by show 1≤p+1;omega) h
theorem Og{v x:V}{o s:Nat}{K:V→RO}(h:layF v o s x K= .ok v2 s2):isC x=true∧x.size=s∧ ∃y,putV v o s x=some y∧K y= .ok v2 s2:=by
 unfold layF at h
 obtain⟨h1,h2,h3⟩:=q0s h
 refine⟨h1,h2,?_⟩
 have slow:(@Option.rec V (fun _=>RO) (.no [96]) K (putV v o s x)= .ok v2 s2)→ ∃y,putV v o s x=some y∧K y= .ok v2 s2:=by
  intro h
  cases hp:putV v o s x with
  |none=>rw[hp]at h;cases h
  |some y=>rw[hp]at h;exact⟨y,rfl,h⟩
 rcases h3 with⟨hu,h⟩|h
 ·generalize hz:(@Option.rec V (fun _=>RO) (.no [96]) K (putV v o s x))=z at h slow
  have whole: ∀w:Nat,v.size=w→(@Bool.rec (fun _=>RO) z (K x) (@Bool.rec (fun _=>Bool) false (Nat.beq s w) (Nat.beq o 0)))= .ok v2 s2→ ∃y,putV v o s x=some y∧K y= .ok v2 s2:=by
   intro w hw h
   cases ho:Nat.beq o 0 with
   |false=>rw[ho]at h;exact slow h
   |true=>
    rw[ho]at h
    cases hs:Nat.beq s w with
    |false=>rw[hs]at h;exact slow h
    |true=>
     rw[hs]at h
     refine⟨x,?_,h⟩
     unfold putV
     rw[ho,hw,hs];rfl
  cases v with
  |und=>cases h
  |tu l=>cases h
  |ag w l=>
   have h: @Bool.rec (fun _=>RO) (stL l o x s (fun l=>K (.ag w l)) z) (K x) (@Bool.rec (fun _=>Bool) false (Nat.beq s w) (Nat.beq o 0))= .ok v2 s2:=h
   have part:(Nat.beq o 0&&Nat.beq s w)=false→stL l o x s (fun l=>K (.ag w l)) z= .ok v2 s2→ ∃y,putV (.ag w l) o s x=some y∧K y= .ok v2 s2:=by
    intro hc h
    rcases Se h with⟨a,u,r,h4,h5⟩|h
    ·refine⟨_,?_,h4⟩
     unfold putV
     rw[show(V.ag w l).size=w from rfl,hc,show(V.ag w l).us=l from rfl,h5,q0F hu];rfl
    ·exact slow h
   cases ho:Nat.beq o 0 with
   |false=>rw[ho]at h;exact part (by rw[ho];rfl) h
   |true=>
    rw[ho]at h
    cases hs:Nat.beq s w with
    |false=>rw[hs]at h;exact part (by rw[hs];simp) h
    |true=>
     rw[hs]at h
     refine⟨x,?_,h⟩
     unfold putV
     rw[show(V.ag w l).size=w from rfl,ho,hs];rfl
  |qq sg n d=>exact whole 3 rfl h
  |_=>exact whole 1 rfl h
 ·exact slow h
theorem Jd{S0:S}{k:Key}{b:KB}{K:V→S→RO}(h:setS S0 k b K= .ok v2 s2):K (.tu []) ⟨mset S0.m k (some b),S0.nx,S0.dn,S0.sc⟩= .ok v2 s2:=by
 obtain⟨m,nx,dn,sc⟩:=S0
 have h:K (.tu []) ⟨Aq m k (some b),nx,dn,sc⟩= .ok v2 s2:=h
 rw[M9]at h;exact h
theorem Sh{P:Program}{t:TypeId}{g:Bool}{s:Nat}{S0:S}{p x:V}{K:V→S→RO}(hs:qA P t=some (g,s))(h:Au s S0 p x K= .ok v2 s2):
  ∃s1,ap S0 (wI P S0.m t p x)= .ok (.tu []) s1∧K (.tu []) s1= .ok v2 s2:=by
 unfold Au at h
 rcases Ec h with⟨k,o,e,h'⟩|⟨k,i,o,w,e,h'⟩<;>subst e<;>rw[M6]at h'
 ·obtain⟨v,hb,h'⟩:=LS h'
  obtain⟨h1,h2,y,h3,h4⟩:=Og h'
  refine⟨_,?_,Jd h4⟩
  have:wI P S0.m t (.pp k o) x= .wr (.tu []) [(k,.bx v)] k (.bx y):=by
   simp only[wI,hs,hb,h3]
   rw[h2,h1,Nat.beq_refl];rfl
  rw[this];rfl
 ·rcases LT h' with⟨es,n,q,hb,h'⟩|⟨es,n,q,hb,h'⟩<;>obtain⟨hc,h'⟩:=vk h'<;>obtain⟨h1,h2,y,h3,h4⟩:=Og h'<;>rw[jx]at hc
  ·refine⟨_,?_,Jd h4⟩
   have:wI P S0.m t (.ee k i o w) x= .wr (.tu []) [(k,.arr es n q)] k (.arr es n (Sq.set y q i)):=by
    simp only[wI,hs,hb,h3]
    rw[h2,h1,Nat.beq_refl,hc.1,hc.2];rfl
   rw[this];rfl
  ·refine⟨_,?_,Jd h4⟩
   have:wI P S0.m t (.ee k i o w) x= .wr (.tu []) [(k,.gro es n q)] k (.gro es n (Sq.set y q i)):=by
    simp only[wI,hs,hb,h3]
    rw[h2,h1,Nat.beq_refl,hc.1,hc.2];rfl
   rw[this];rfl
theorem HY{d:D16}{f:D16→RO}{z:RO}(h:nxD d f z= .ok v2 s2):(∃d',d.next=some d'∧f d'= .ok v2 s2)∨(d.next=none∧z= .ok v2 s2):=by
 cases d<;>first|exact .inl ⟨_,rfl,h⟩|exact .inr ⟨rfl,h⟩
theorem U8{k:Key}{f:Key→RO}(h:Bs k f= .ok v2 s2): ∃k',k.succ=some k'∧f k'= .ok v2 s2:=by
 obtain⟨a,b,c,d⟩:=k
 rcases HY (show nxD d _ _= .ok v2 s2 from h)with⟨d',e,h⟩|⟨ed,h⟩
 ·exact⟨_,by simp only[Key.succ,e],h⟩
 rcases HY h with⟨d',e,h⟩|⟨ec,h⟩
 ·exact⟨_,by simp only[Key.succ,ed,e],h⟩
 rcases HY h with⟨d',e,h⟩|⟨eb,h⟩
 ·exact⟨_,by simp only[Key.succ,ed,ec,e],h⟩
 rcases HY h with⟨d',e,h⟩|⟨ea,h⟩
 ·exact⟨_,by simp only[Key.succ,ed,ec,eb,e],h⟩
 cases h
theorem Ou{S0:S}{v:V}{K:V→S→RO}(h:newF S0 v K= .ok v2 s2): ∃s1,ap S0 (.nw (.pp S0.nx 0) [] (.bx v))= .ok (.pp S0.nx 0) s1∧K (.pp S0.nx 0) s1= .ok v2 s2:=by
 obtain⟨m,nx,dn,sc⟩:=S0
 have h:Bs nx (fun k'=>K (.pp nx 0) ⟨Aq m nx (some (.bx v)),k',dn,sc⟩)= .ok v2 s2:=h
 obtain⟨k',e,h⟩:=U8 h
 rw[M9]at h
 refine⟨_,?_,h⟩
 show putK m nx dn sc _ _=_
 unfold putK
 rw[e]
theorem F8{r:RO}{K:V→S→RO}(h:roK r K= .ok v2 s2): ∃v s,r= .ok v s∧K v s= .ok v2 s2:=by cases r<;>first|exact⟨_,_,rfl,h⟩|cases h
end
end
noncomputable section
section
variable {v2:V} {s2:S}
theorem Vv(a b:D16)(e:qa):(gTab a b).f e=KM a b e:=by cases a<;>cases b<;>rfl
theorem WL(a b:D16)(v:V)(e:qa):(sTab a b).f v e=Pm a b v e:=by cases a<;>cases b<;>rfl
theorem ZW{t:Nat}(ht:Nat.blt t 256=true)(e:qa):(gT t).f e=slot e t:=by unfold gT slot;rw[Vv,ht]
theorem q0w(t:Nat)(v:V)(e:qa):(sT t).f v e=eset e t v:=by unfold sT eset;rw[WL]
theorem O0{X:Type}{v:V}{f:V→Option X}{x:X}(h:frcV v f none=some x):v≠ .und∧f v=some x:=by cases v<;>first|exact⟨by simp,h⟩|cases h
variable {α:Type} {P:Program} {loc D:Nat} {m:Mp α} {fr:α} {e' e:qa}
def SrcOk(loc:Nat)(fr:α)(e' e:qa)(t:Nat):Src α→Prop
 | .c v=>slot e t=v∧v≠ .und
 | .g d n f=>(d=true→slot e t≠ .und)∧(∀e'',(∀t',n=t'+1→slot e'' t'=slot e' t')→f fr e''=slot e t)∧ ∀t',n=t'+1→Nat.testBit loc t'=false
 | .dead=>True
structure Inv (loc D:Nat) (m:Mp α) (fr:α) (e' e:qa):Prop where
 ag: ∀t,Nat.testBit loc t=false→slot e' t=slot e t
 mp: ∀t x,vd t m=some x→Nat.testBit loc t=true∧SrcOk loc fr e' e t x
 df: ∀t,Nat.testBit D t=true→slot e t≠ .und
theorem wP{x:Operand}{y:Src α}(h:src loc D m x=some y)(hi:Inv loc D m fr e' e):
  (∀v,y= .c v→qe e x=v∧v≠ .und)∧ ∀d n f,y= .g d n f→f fr e'=qe e x∧(d=true→qe e x≠ .und)∧(∀e'',(∀t',n=t'+1→slot e'' t'=slot e' t')→f fr e''=qe e x)∧ ∀t',n=t'+1→Nat.testBit loc t'=false:=by
 cases x with
 |tmp t=>
  show _
  have h:(bif Nat.testBit loc t then(match vd t m with|some .dead=>none|y=>y)else(bif Nat.blt t 256 then(match gT t with|⟨f⟩=>some (.g (Nat.testBit D t) (t+1) fun _ e=>f e))else none))=some y:=h
  cases hl:Nat.testBit loc t with
  |true=>
   rw[hl,cond_true]at h
   have h:vd t m=some y:=by
    split at h
    ·cases h
    ·exact h
   obtain⟨_,h2⟩:=hi.mp t y h
   refine⟨fun v e=>?_,fun d n f e=>?_⟩
   ·subst e;exact h2
   ·subst e;exact⟨h2.2.1 e' fun _ _=>rfl,h2.1,h2.2.1,h2.2.2⟩
  |false=>
   rw[hl,cond_false]at h
   cases hb:Nat.blt t 256 with
   |false=>rw[hb]at h;cases h
   |true=>
    rw[hb,cond_true]at h
    have hg: ∀e'',(gT t).f e''=slot e'' t:=fun e''=>ZW hb e''
    generalize gT t=q at h hg
    obtain⟨f0⟩:=q
    cases h
    refine⟨fun v e=>(by cases e),fun d n f eq=>?_⟩
    cases eq
    have hag:=hi.ag t hl
    refine⟨(by show f0 e'=slot e t;rw[←hag];exact hg e'),hi.df t,fun e'' he=>?_,fun t' ht=>(by have e1:t=t':=Nat.succ.inj ht;rw[←e1];exact hl)⟩
    show f0 e''=slot e t
    rw[←hag,←he t rfl];exact hg e''
 |const v=>
  obtain⟨h1,h2⟩:=O0 (show frcV (jD v) _ none=some y from h)
  cases h2
  exact⟨fun u eq=>by cases eq;exact⟨rfl,h1⟩,fun d n f eq=>by cases eq⟩
 |global g=>cases h
 |func f=>cases h;exact⟨fun u eq=>by cases eq;exact⟨rfl,by simp⟩,fun d n f eq=>by cases eq⟩
theorem qU{x:Operand}{g:GV α}(h:gv loc D m x=some g)(hi:Inv loc D m fr e' e):g.f fr e'=qe e x:=by
 unfold gv at h
 split at h
 ·rename_i v hs;cases h;exact((wP hs hi).1 v rfl).1.symm
 ·rename_i d n f hs;cases h;exact((wP hs hi).2 d n f rfl).1
 ·cases h
theorem R0{x:Operand}{g:GV α}(h:gvD loc D m x=some g)(hi:Inv loc D m fr e' e):g.f fr e'=qe e x∧qe e x≠ .und:=by
 unfold gvD at h
 split at h
 ·rename_i v hs;cases h
  have:=(wP hs hi).1 v rfl
  exact⟨this.1.symm,by rw[this.1];exact this.2⟩
 ·rename_i n f hs;cases h
  have:=(wP hs hi).2 true n f rfl
  exact⟨this.1,this.2.1 rfl⟩
 ·cases h
theorem B3: ∀{xs:List Operand}{l:VL α},gvs loc D m xs=some l→Inv loc D m fr e' e→l.f fr e'=evs e xs
 |[],l,h,hi=>by cases h;rfl
 |x::r,l,h,hi=>by
  unfold gvs at h
  split at h
  ·rename_i g l' h1 h2
   cases h
   show g fr e'::l' fr e'=qe e x::evs e r
   rw[←qU h1 hi,←B3 h2 hi]
  ·cases h
theorem D1: ∀{xs:List Operand}{l:CD α}{z:RO},dfs loc D m xs=some l→Inv loc D m fr e' e→l.f fr e' z= .ok v2 s2→(∀x∈xs,qe e x≠ .und)∧z= .ok v2 s2
 |[],l,z,h,hi,hz=>by cases h;exact⟨fun x hx=>(by simp at hx),hz⟩
 |x::r,l,z,h,hi,hz=>by
  unfold dfs at h
  split at h
  ·rename_i v hs
   obtain⟨h1,h2⟩:=D1 h hi hz
   have:=(wP hs hi).1 v rfl
   exact⟨fun y hy=>by rcases q1h.1 hy with rfl|hy;(rw[this.1];exact this.2);exact h1 y hy,h2⟩
  ·rename_i n f hs
   obtain⟨h1,h2⟩:=D1 h hi hz
   have:=(wP hs hi).2 true n f rfl
   exact⟨fun y hy=>by rcases q1h.1 hy with rfl|hy;exact this.2.1 rfl;exact h1 y hy,h2⟩
  ·rename_i n f l' hs hl
   cases h
   obtain⟨h3,h4⟩:=UG (show qD (f fr e') (l' fr e' z)= .ok v2 s2 from hz)
   obtain⟨h1,h2⟩:=D1 hl hi h4
   have:=(wP hs hi).2 false n f rfl
   exact⟨fun y hy=>by rcases q1h.1 hy with rfl|hy;(rw[←this.1];exact h3);exact h1 y hy,h2⟩
  ·cases h
theorem X0{r:KR}(h:Vl r)(hr:r.res≠ .und):r= .val r.res []:=by
 rcases h with rfl|⟨v,rfl⟩
 ·exact absurd rfl hr
 ·rfl
theorem TS{v:V}(h:v≠ .und):retV v= .val v []:=by cases v<;>first|rfl|exact absurd rfl h
def Told(P:Program)(e:qa)(s:S)(op:Op)(K:V→RO)(v2:V)(s2:S):Prop:= ∃v,v≠ .und∧(∀rc,vy rc P e s op= .ok v s)∧K v= .ok v2 s2
theorem told{s:S}{op:Op}{K:V→RO}{v:V}(hv:v≠ .und){ks:List (Key×KB)}(h: ∀rc,vy rc P e s op=ap s (kop P e s.m s.nx op))(hk:kop P e s.m s.nx op= .val v ks)(hK:K v= .ok v2 s2):Told P e s op K v2 s2:=
 ⟨v,hv,fun rc=>by rw[h rc,hk];rfl,hK⟩
theorem z3{s:S}{op:Op}{K:V→RO}{r:KR}(h: ∀rc,vy rc P e s op=ap s (kop P e s.m s.nx op))(hk:kop P e s.m s.nx op=r)(hr:Vl r)(hK:qF r.res K= .ok v2 s2):Told P e s op K v2 s2:=by
 obtain⟨h1,h2⟩:=AU hK
 exact told h1 h (hk.trans (X0 hr h1)) h2
theorem Ov: ∀(i:Nat){l:List V}{K:V→RO},(nthC i).f l K= .ok v2 s2→ ∃v,l[i]?=some v∧v≠ .und∧K v= .ok v2 s2
 |0,[],K,h=>by cases h
 |0,v::l,K,h=>⟨v,rfl,AU h⟩
 |i+1,[],K,h=>by
  unfold nthC at h
  revert h;generalize nthC i=q;obtain⟨g⟩:=q;intro h;cases h
 |i+1,v::l,K,h=>by
  have:(nthC i).f l K= .ok v2 s2:=by
   unfold nthC at h
   revert h;generalize nthC i=q;obtain⟨g⟩:=q;intro h;exact h
  exact Ov i this
theorem T8{op:Op}{h:VC α}{s:S}{K:V→RO}(hc:Pj P loc D m op=some h)(hi:Inv loc D m fr e' e)(hv:h.f fr e' s K= .ok v2 s2):Told P e s op K v2 s2:=by
 have hc:v6 P loc D m op=some h:=by
  have:Pj P loc D m op=Ls.1 P loc D m op:=rfl
  rw[this,Ls.2]at hc;exact hc
 cases op with
 |load t x=>
  unfold v6 at hc
  simp only at hc
  split at hc
  ·rename_i g sz hg hs
   cases hc
   have hg:=qU hg hi
   obtain⟨u,ks,h1,h2,h3⟩:=FL (K:=K) (part:=fun v o=>ldA v sz o K (qF (ldS true sz v o []).res K)) hs (fun v o ks h=>LX ks h) hv
   exact told h1 (fun rc=>rfl) (by show jb P s.m t (qe e x)=_;rw[←hg];exact h3) h2
  ·rename_i g hg hs
   cases hc
   have hg:=qU hg hi
   obtain⟨u,ks,h1,h2,h3⟩:=FL (K:=K) (part:=fun v o=>ld1 v o K) hs (fun v o ks h=>LW ks h) hv
   exact told h1 (fun rc=>rfl) (by show jb P s.m t (qe e x)=_;rw[←hg];exact h3) h2
  ·cases hc
 |binOp op t x y yt=>
  unfold v6 at hc
  simp only at hc
  split at hc
  ·rename_i gx sy hgx hsy
   have hx:=qU hgx hi
   cases hsh:isSh op with
   |true=>
    rw[hsh,cond_true]at hc
    split at hc
    ·rename_i gy hgy
     cases hc
     have hy:=qU hgy hi
     exact z3 (fun rc=>rfl) (by show kBin P op t (qe e x) (qe e y)=_;rw[←hx,←hy]) Dp hv
    ·cases hc
   |false=>
    rw[hsh,cond_false]at hc
    have hnn: ∀{k k':IntKind}{a b:Nat},keqF k k'=true→(binH op).f k a b K= .ok v2 s2→qe e x= .nn k a→qe e y= .nn k' b→Told P e s (.binOp op t x y yt) K v2 s2:=by
     intro k k' a b hk hb ex ey
     obtain⟨h1,h2⟩:=V5 hb
     refine told h1 (fun rc=>rfl) (ks:=[]) ?_ h2
     show kBin P op t (qe e x) (qe e y)=_
     rw[ex,ey]
     rw[Oc]at hk
     show @Bool.rec (fun _=>KR) (@Bool.rec (fun _=>KR) .bad (retV (binN op k a b)) (keq k k')) (retV (shN op k a b)) (isSh op)=_
     rw[hsh,hk];exact TS h1
    generalize hbh:binH op=bh at hc hnn
    obtain⟨hf⟩:=bh
    cases sy with
    |c u=>
     have hy:=((wP hsy hi).1 u rfl).1
     have gen:some (⟨fun fr e _ K=>qF (kBin P op t (gx fr e) u).res K⟩:VC α)=some h→Told P e s (.binOp op t x y yt) K v2 s2:=by
      intro hc
      cases hc
      exact z3 (fun rc=>rfl) (by show kBin P op t (qe e x) (qe e y)=_;rw[hy,←hx]) Dp hv
     cases u with
     |nn kc c=>
      cases hc
      rcases Ie hv with⟨k,a,ex,h⟩|⟨hn,h⟩
      ·obtain⟨hk,h⟩:=vk h
       exact hnn hk h (by rw[←hx];exact ex) hy
      ·exact z3 (fun rc=>rfl) (by show kBin P op t (qe e x) (qe e y)=_;rw[hy,←hx]) Dp h
     |_=>exact gen hc
    |dead=>cases hc
    |g d n gy=>
     have hy:=((wP hsy hi).2 d n gy rfl).1
     cases hc
     rcases Ie hv with⟨k,a,ex,h⟩|⟨hn,h⟩
     ·rcases Ie h with⟨k',b,ey,h⟩|⟨hn,h⟩
      ·obtain⟨hk,h⟩:=vk h
       exact hnn hk h (by rw[←hx];exact ex) (by rw[←hy];exact ey)
      ·have ex:qe e x= .nn k a:=by rw[←hx];exact ex
       exact z3 (fun rc=>rfl) (by show kBin P op t (qe e x) (qe e y)=_;rw[←hy,ex]) Dp h
     ·exact z3 (fun rc=>rfl) (by show kBin P op t (qe e x) (qe e y)=_;rw[←hy,←hx]) Dp h
  ·cases hc
 |fieldAddr st x f=>
  unfold v6 at hc
  simp only at hc
  split at hc
  ·rename_i g ft sz hg hf
   have hx:g fr e'=qe e x:=qU hg hi
   cases hz:Nat.beq sz 0 with
   |true=>rw[hz]at hc;cases hc
   |false=>
    rw[hz,cond_false]at hc;cases hc
    rcases Ec hv with⟨k,o,ex,h⟩|⟨k,i,o,w,ex,h⟩
    ·refine told (by simp) (fun rc=>rfl) (ks:=[]) ?_ h
     show jM P st f (qe e x)=_
     rw[←hx,ex];simp only[jM,hf,hz];rfl
    ·refine told (by simp) (fun rc=>rfl) (ks:=[]) ?_ h
     show jM P st f (qe e x)=_
     rw[←hx,ex];simp only[jM,hf,hz];rfl
  ·rename_i g fo ft sz hne hg hf
   have hx:g fr e'=qe e x:=qU hg hi
   cases hz:Nat.beq sz 0 with
   |true=>rw[hz]at hc;cases hc
   |false=>
    rw[hz,cond_false]at hc;cases hc
    rcases Ec hv with⟨k,o,ex,h⟩|⟨k,i,o,w,ex,h⟩
    ·refine told (by simp) (fun rc=>rfl) (ks:=[]) ?_ h
     show jM P st f (qe e x)=_
     rw[←hx,ex];simp only[jM,hf,hz];rfl
    ·refine told (by simp) (fun rc=>rfl) (ks:=[]) ?_ h
     show jM P st f (qe e x)=_
     rw[←hx,ex];simp only[jM,hf,hz];rfl
  ·cases hc
 |indexAddr t x y=>
  unfold v6 at hc
  simp only at hc
  split at hc
  ·rename_i gx gy hgx hgy
   have hx:gx fr e'=qe e x:=qU hgx hi
   have hy:gy fr e'=qe e y:=qU hgy hi
   split at hc
   ·rename_i n sz ha
    cases hc
    obtain⟨kk,j,ey,h⟩:=UH hv
    rcases Ec h with⟨k,o,ex,h⟩|⟨k,q,o,w,ex,h⟩<;>obtain⟨hb,h⟩:=vk h
    ·refine told (by simp) (fun rc=>rfl) (ks:=[]) ?_ h
     show jN P t (qe e x) (qe e y)=_
     rw[←hx,ex,←hy,ey];simp only[jN,ha,hb];rfl
    ·refine told (by simp) (fun rc=>rfl) (ks:=[]) ?_ h
     show jN P t (qe e x) (qe e y)=_
     rw[←hx,ex,←hy,ey];simp only[jN,ha,hb];rfl
   ·split at hc
    ·rename_i es ha
     cases hc
     obtain⟨kk,j,ey,h⟩:=UH hv
     rcases UI h with⟨k,lo,n,c,w,ex,h⟩|⟨k,lo,n,w,ex,h⟩|h
     ·obtain⟨hb,h⟩:=vk h
      rw[jx]at hb
      refine told (by simp) (fun rc=>rfl) (ks:=[]) ?_ h
      show jN P t (qe e x) (qe e y)=_
      rw[←hx,ex,←hy,ey];simp only[jN,ha];rw[hb.1,hb.2];rfl
     ·obtain⟨hb,h⟩:=vk h
      rw[jx]at hb
      refine told (by simp) (fun rc=>rfl) (ks:=[]) ?_ h
      show jN P t (qe e x) (qe e y)=_
      rw[←hx,ex,←hy,ey];simp only[jN,ha];rw[hb.1,hb.2];rfl
     ·cases h
    ·cases hc
  ·cases hc
 |nilCheck x=>
  unfold v6 at hc
  simp only at hc
  split at hc
  ·rename_i g hg
   cases hc
   have hx:g fr e'=qe e x:=qU hg hi
   rcases Ec hv with⟨k,o,ex,h⟩|⟨k,i,o,w,ex,h⟩
   ·exact told (by simp) (fun rc=>rfl) (ks:=[]) (by show wj (qe e x)=_;rw[←hx,ex];rfl) h
   ·exact told (by simp) (fun rc=>rfl) (ks:=[]) (by show wj (qe e x)=_;rw[←hx,ex];rfl) h
  ·cases hc
 |unOp o t x=>
  have gen: ∀{g:GV α},gv loc D m x=some g→some (⟨fun fr e _ K=>qF (kUn P o (g.f fr e)).res K⟩:VC α)=some h→Told P e s (.unOp o t x) K v2 s2:=by
   intro g hg hc
   cases hc
   exact z3 (fun rc=>rfl) (by show kUn P o (qe e x)=_;rw[←qU hg hi]) (UP (P:=P)) hv
  unfold v6 at hc
  cases o with
  |not=>
   simp only at hc
   split at hc
   ·rename_i g hg
    cases hc
    have hx:g fr e'=qe e x:=qU hg hi
    obtain⟨b,ex,h⟩:=PX hv
    exact told (by simp) (fun rc=>rfl) (ks:=[]) (by show kUn P .not (qe e x)=_;rw[←hx,ex,J7];rfl) h
   ·cases hc
  |_=>
   simp only at hc
   split at hc
   ·rename_i g hg;exact gen hg hc
   ·cases hc
 |pick c x y=>
  unfold v6 at hc
  simp only at hc
  split at hc
  ·rename_i gx gy gc hgx hgy hgc
   cases hc
   obtain⟨hx,nx⟩:=R0 hgx hi
   obtain⟨hy,ny⟩:=R0 hgy hi
   have hx:gx fr e'=qe e x:=hx
   have hy:gy fr e'=qe e y:=hy
   have hcc:gc fr e'=qe e c:=qU hgc hi
   obtain⟨b,ec,h⟩:=PX hv
   have hk:Co (qe e c) (qe e x) (qe e y)= .val (@Bool.rec (fun _=>V) (qe e y) (qe e x) b) []:=by
    rw[←hcc,ec]
    show @Bool.rec (fun _=>KR) _ _ (isU (qe e x)||isU (qe e y))=_
    have ux:isU (qe e x)=false:=by cases hq:qe e x<;>first|rfl|exact absurd hq nx
    have uy:isU (qe e y)=false:=by cases hq:qe e y<;>first|rfl|exact absurd hq ny
    rw[ux,uy];rfl
   cases b with
   |true=>rw[hx]at h;exact told nx (fun rc=>rfl) hk h
   |false=>rw[hy]at h;exact told ny (fun rc=>rfl) hk h
  ·split at hc
   ·rename_i gx gy gc hgx hgy hgc
    cases hc
    have hx:gx fr e'=qe e x:=qU hgx hi
    have hy:gy fr e'=qe e y:=qU hgy hi
    have hcc:gc fr e'=qe e c:=qU hgc hi
    exact z3 (fun rc=>rfl) (by show Co (qe e c) (qe e x) (qe e y)=_;rw[←hx,←hy,←hcc]) P1 hv
   ·cases hc
 |convert st t x=>
  unfold v6 at hc
  simp only at hc
  split at hc
  ·rename_i g k us hg hk hs
   cases hc
   have hx:g fr e'=qe e x:=qU hg hi
   have hkc:zP P s.m st t (qe e x)=Cn P st t (qe e x):=by unfold zP;rw[hk]
   rcases Ie hv with⟨kk,n,ex,h⟩|⟨hn,h⟩
   ·have h:=HW h
    refine told (by have:=(C4 [] k n).1;intro e0;rw[e0]at this;cases this) (fun rc=>rfl) (ks:=[]) ?_ h
    show zP P s.m st t (qe e x)=_
    rw[hkc,←hx,ex]
    simp only[Cn,hk,hs];rfl
   ·exact z3 (fun rc=>rfl) (by show zP P s.m st t (qe e x)=_;rw[hkc,←hx]) Jl h
  ·cases hc
 |extract x i=>
  unfold v6 at hc
  simp only at hc
  have hc2: ∀(q:NT),q=nthC i→(match gv loc D m x,q with|some ⟨x⟩,⟨g⟩=>some (⟨fun fr e _ K=>qT (x fr e) fun l=>g l K⟩:VC α)|none,_=>none)=some h→Told P e s (.extract x i) K v2 s2:=by
   intro q hq hc
   obtain⟨g⟩:=q
   cases hgx:gv loc D m x with
   |none=>rw[hgx]at hc;cases hc
   |some gx=>
    obtain⟨gx⟩:=gx
    rw[hgx]at hc
    cases hc
    have hx:gx fr e'=qe e x:=qU hgx hi
    obtain⟨l,ex,h⟩:=q0r hv
    have h:(nthC i).f l K= .ok v2 s2:=by rw[←hq];exact h
    obtain⟨v,h1,h2,h3⟩:=Ov i h
    refine told h2 (fun rc=>rfl) (ks:=[]) ?_ h3
    show A2 (qe e x) i=_
    rw[←hx,ex]
    simp only[A2,nth,h1]
  exact hc2 _ rfl hc
 |field st x f=>
  unfold v6 at hc
  simp only at hc
  split at hc
  ·rename_i g hg
   cases hc
   have hx:g fr e'=qe e x:=qU hg hi
   exact z3 (fun rc=>rfl) (by show C0 P st f (qe e x)=_;rw[←hx]) MU hv
  ·cases hc
 |index t x y=>
  unfold v6 at hc
  simp only at hc
  split at hc
  ·rename_i gx gy hgx hgy
   cases hc
   have hx:gx fr e'=qe e x:=qU hgx hi
   have hy:gy fr e'=qe e y:=qU hgy hi
   exact z3 (fun rc=>rfl) (by show C1 P t (qe e x) (qe e y)=_;rw[←hx,←hy]) MW hv
  ·cases hc
 |build t ps=>
  unfold v6 at hc
  simp only at hc
  split at hc
  ·rename_i l hl
   cases hc
   have hx:l fr e'=evs e (ps.toList.map (·.2)):=B3 hl hi
   exact z3 (fun rc=>rfl) (by show BZ P t _ (evs e (ps.toList.map (·.2)))=_;rw[←hx]) MT hv
  ·cases hc
 |makeFunc fn fs cs=>
  unfold v6 at hc
  simp only at hc
  split at hc
  ·rename_i l hl
   cases hc
   have hx:l fr e'=evs e cs.toList:=B3 hl hi
   exact z3 (fun rc=>rfl) (by show AQ fn fs (evs e cs.toList)=_;rw[←hx]) OZ hv
  ·cases hc
 |slice t x lo hi' mx=>
  cases mx with
  |some z=>unfold v6 at hc;cases hc
  |none=>
   unfold v6 at hc
   simp only at hc
   split at hc
   ·rename_i g hg
    have hx:g fr e'=qe e x:=qU hg hi
    cases lo with
    |none=>cases hi' with
     |none=>
      cases hc
      exact z3 (fun rc=>rfl) (by show zr P t (qe e x) none none=_;rw[←hx]) Cb hv
     |some r=>
      simp only at hc
      split at hc
      ·rename_i gl hgl
       cases hc
       have hl:gl fr e'=qe e r:=qU hgl hi
       exact z3 (fun rc=>rfl) (by show zr P t (qe e x) none (some (qe e r))=_;rw[←hx,←hl]) Cb hv
      ·cases hc
    |some l=>cases hi' with
     |none=>
      simp only at hc
      split at hc
      ·rename_i gl hgl
       cases hc
       have hl:gl fr e'=qe e l:=qU hgl hi
       exact z3 (fun rc=>rfl) (by show zr P t (qe e x) (some (qe e l)) none=_;rw[←hx,←hl]) Cb hv
      ·cases hc
     |some r=>
      simp only at hc
      split at hc
      ·rename_i gl gr hgl hgr
       cases hc
       have hl:gl fr e'=qe e l:=qU hgl hi
       have hr:gr fr e'=qe e r:=qU hgr hi
       exact z3 (fun rc=>rfl) (by show zr P t (qe e x) (some (qe e l)) (some (qe e r))=_;rw[←hx,←hl,←hr]) Cb hv
      ·cases hc
   ·cases hc
 |call c=>
  obtain⟨cl,xs,ts⟩:=c
  unfold v6 at hc
  cases cl with
  |builtin b=>
   cases b with
   |len=>
    simp only at hc
    split at hc
    ·rename_i x t hxs hts
     have hop: ∀rc,vy rc P e s (.call {callee:= .builtin .len,args:=xs,argTypes:=ts})=ap s (kop P e s.m s.nx (.call {callee:= .builtin .len,args:=xs,argTypes:=ts})):=fun rc=>rfl
     have hk:kop P e s.m s.nx (.call {callee:= .builtin .len,args:=xs,argTypes:=ts})=kLen P t (qe e x):=by
      show vX P .len ts.toList (evs e xs.toList) s.m s.nx=_
      rw[hxs,hts];rfl
     split at hc
     ·rename_i g hg
      have hx:g fr e'=qe e x:=qU hg hi
      cases hsl:ju P t with
      |true=>
       rw[hsl,cond_true]at hc
       cases hc
       rcases UI hv with⟨k,lo,n,c,w,ex,h⟩|⟨k,lo,n,w,ex,h⟩|h
       ·exact told (by simp) hop (ks:=[]) (by rw[hk,←hx,ex];simp only[kLen,hsl]) h
       ·exact told (by simp) hop (ks:=[]) (by rw[hk,←hx,ex];simp only[kLen,hsl]) h
       ·exact z3 hop (by rw[hk,←hx]) MY h
      |false=>
       rw[hsl,cond_false]at hc
       cases hc
       exact z3 hop (by rw[hk,←hx]) MY hv
     ·cases hc
    ·cases hc
   |_=>cases hc
  |_=>cases hc
 |_=>unfold v6 at hc;cases hc
end
end
noncomputable section
structure RcLe (pr:vH) (call:FuncId→Row→Nat→S→RO) (rc:FuncId→List V→S→RO):Prop where
 code: ∀f w n s v s',call f w n s= .ok v s'→n≤16∧((ji (rowL w n)).c0=w→(∀x∈rowL w n,x≠ .und)→v≠ .und∧rc f (rowL w n) s= .ok v s')
 prim: ∀f g,pr f=some g→ ∀vs s v s',g vs s= .ok v s'→rc f vs s= .ok v s'
section
variable {v2:V} {s2:S} {α γ:Type} {P:Program} {pr:vH} {rg:RG γ} {loc D:Nat} {m:Mp α} {fr:α} {e' e:qa} {c:γ} {rc:FuncId→List V→S→RO}
theorem GU: ∀{l:List V},l.length≤16→rowL (ji l).c0 l.length=l:=by
 intro l hl
 apply List.ext_getElem?
 intro i
 unfold rowL
 by_cases hi:i<l.length
 ·rw[q17 hi]
  have hn: ∀j,(h:j<l.length)→l[j]?=some (nthV l j):=fun j h=>by unfold nthV;rw[q11,q15 h];rfl
  rw[hn i hi]
  have hi16:i<16:=by omega
  match i,hi16 with
  |0,_=>rfl
  |1,_=>rfl
  |2,_=>rfl
  |3,_=>rfl
  |4,_=>rfl
  |5,_=>rfl
  |6,_=>rfl
  |7,_=>rfl
  |8,_=>rfl
  |9,_=>rfl
  |10,_=>rfl
  |11,_=>rfl
  |12,_=>rfl
  |13,_=>rfl
  |14,_=>rfl
  |15,_=>rfl
  |k+16,h=>omega
 ·rw[q16 (by rw[q1e];omega),q16 (by omega)]
theorem TX{xs:List Operand}{w:RW α}(h:G3 loc D m xs=some w)(hi:Inv loc D m fr e' e)(hn:xs.length≤16):rowL (w.f fr e') xs.length=evs e xs∧(ji (rowL (w.f fr e') xs.length)).c0=w.f fr e':=by
 match xs,h,hn with
 |[],h,_=>cases h;exact⟨rfl,rfl⟩
 |[a],h,_=>
  unfold G3 at h
  simp only at h
  split at h
  ·rename_i ga hga
   cases h
   have ha:ga fr e'=qe e a:=qU hga hi
   refine⟨?_,rfl⟩
   show[ga fr e']=[qe e a]
   rw[ha]
  ·cases h
 |[a,b],h,_=>
  unfold G3 at h
  simp only at h
  split at h
  ·rename_i ga gb hga hgb
   cases h
   have ha:ga fr e'=qe e a:=qU hga hi
   have hb:gb fr e'=qe e b:=qU hgb hi
   refine⟨?_,rfl⟩
   show[ga fr e',gb fr e']=[qe e a,qe e b]
   rw[ha,hb]
  ·cases h
 |[a,b,d],h,_=>
  unfold G3 at h
  simp only at h
  split at h
  ·rename_i ga gb gd hga hgb hgd
   cases h
   have ha:ga fr e'=qe e a:=qU hga hi
   have hb:gb fr e'=qe e b:=qU hgb hi
   have hd:gd fr e'=qe e d:=qU hgd hi
   refine⟨?_,rfl⟩
   show[ga fr e',gb fr e',gd fr e']=[qe e a,qe e b,qe e d]
   rw[ha,hb,hd]
  ·cases h
 |a::b::d::f::xr,h,hn=>
  unfold G3 at h
  simp only at h
  split at h
  ·rename_i l hl
   cases h
   have hx:l fr e'=evs e (a::b::d::f::xr):=B3 hl hi
   have hlen:(evs e (a::b::d::f::xr)).length=(a::b::d::f::xr).length:=by simp[evs]
   show rowL (ji (l fr e')).c0 _=_∧(ji (rowL (ji (l fr e')).c0 _)).c0=(ji (l fr e')).c0
   rw[hx,←hlen]
   have:=GU (l:=evs e (a::b::d::f::xr)) (by rw[hlen];exact hn)
   exact⟨this,by rw[this]⟩
  ·cases h
theorem EA{xs:List Operand}(h: ∀x∈xs,qe e x≠ .und):Ai (evs e xs)=true:=by
 unfold Ai evs
 rw[List.all_eq_true]
 intro v hv
 obtain⟨x,hx,rfl⟩:=List.mem_map.1 hv
 have:=h x hx
 cases hq:qe e x<;>first|rfl|exact absurd hq this
theorem Jv{l:List V}(h:Ai l=true): ∀v∈l,v≠ .und:=fun v hv e=>by
 unfold Ai at h
 have:=List.all_eq_true.1 h v hv
 rw[e]at this;cases this
theorem T6{op:Op}{h:HK α}{s:S}(hc:AN P loc D m op=some h)(hi:Inv loc D m fr e' e)(rc:FuncId→List V→S→RO):vy rc P e s op=ap s (h.f fr e' s):=by
 cases op with
 |buildSlice t n ps=>
  unfold AN at hc
  simp only at hc
  split at hc
  ·rename_i l hl
   cases hc
   have hx:l fr e'=evs e (ps.toList.map (·.2)):=B3 hl hi
   show ap s (vQ P t n _ (evs e (ps.toList.map (·.2))) s.nx)=ap s (vQ P t n _ (l fr e') s.nx)
   rw[hx]
  ·cases hc
 |makeSlice t x y=>
  unfold AN at hc
  simp only at hc
  split at hc
  ·rename_i gx gy hgx hgy
   cases hc
   have hx:gx fr e'=qe e x:=qU hgx hi
   have hy:gy fr e'=qe e y:=qU hgy hi
   show ap s (zd P t (qe e x) (qe e y) s.nx)=ap s (zd P t (gx fr e') (gy fr e') s.nx)
   rw[hx,hy]
  ·cases hc
 |makeMap t r=>
  cases r with
  |none=>cases hc;rfl
  |some z=>cases hc
 |lookup t x y b=>
  unfold AN at hc
  simp only at hc
  split at hc
  ·rename_i gx gy hgx hgy
   cases hc
   have hx:gx fr e'=qe e x:=qU hgx hi
   have hy:gy fr e'=qe e y:=qU hgy hi
   show ap s (BE P s.m t b (qe e x) (qe e y))=ap s (BE P s.m t b (gx fr e') (gy fr e'))
   rw[hx,hy]
  ·cases hc
 |mapUpdate t x y z=>
  unfold AN at hc
  simp only at hc
  split at hc
  ·rename_i gx gy gz hgx hgy hgz
   cases hc
   have hx:gx fr e'=qe e x:=qU hgx hi
   have hy:gy fr e'=qe e y:=qU hgy hi
   have hz:gz fr e'=qe e z:=qU hgz hi
   show ap s (D7 P s.m t (qe e x) (qe e y) (qe e z))=ap s (D7 P s.m t (gx fr e') (gy fr e') (gz fr e'))
   rw[hx,hy,hz]
  ·cases hc
 |convert st t x=>
  unfold AN at hc
  simp only at hc
  split at hc
  ·rename_i gx hgx
   cases hc
   have hx:gx fr e'=qe e x:=qU hgx hi
   show ap s (zP P s.m st t (qe e x))=ap s (zP P s.m st t (gx fr e'))
   rw[hx]
  ·cases hc
 |call cc=>
  obtain⟨cl,xs,ts⟩:=cc
  unfold AN at hc
  cases cl with
  |builtin b=>
   simp only at hc
   split at hc
   ·rename_i l hl
    have hx:l fr e'=evs e xs.toList:=B3 hl hi
    have gen:some (⟨fun fr e s=>vX P b ts.toList (l fr e) s.m s.nx⟩:HK α)=some h→vy rc P e s (.call {callee:= .builtin b,args:=xs,argTypes:=ts})=ap s (h.f fr e' s):=by
     intro hc
     cases hc
     show ap s (vX P b ts.toList (evs e xs.toList) s.m s.nx)=ap s (vX P b ts.toList (l fr e') s.m s.nx)
     rw[hx]
    cases b with
    |append=>
     simp only at hc
     split at hc
     ·rename_i t u x y hts hxs
      split at hc
      ·rename_i gx gy hgx hgy
       cases hc
       have hx:gx fr e'=qe e x:=qU hgx hi
       have hy:gy fr e'=qe e y:=qU hgy hi
       show ap s (vX P .append ts.toList (evs e xs.toList) s.m s.nx)=ap s (D6 P t u s.m (gx fr e') (gy fr e') s.nx)
       rw[hts,hxs,hx,hy];rfl
      ·cases hc
     ·cases hc
    |_=>exact gen hc
   ·cases hc
  |_=>cases hc
 |_=>unfold AN at hc;cases hc
theorem Lq{op:Op}{h:OC γ α}{s:S}{K:V→S→RO}(hr:RcLe pr (rg.f c) rc)(hc:Kv P pr rg loc D m op=some h)(hi:Inv loc D m fr e' e)(hv:h.f c fr e' s K= .ok v2 s2):
  ∃v s1,v≠ .und∧vy rc P e s op= .ok v s1∧K v s1= .ok v2 s2:=by
 have hc:Hs P pr rg loc D m op=some h:=by
  have:Kv P pr rg loc D m op=Lp.1 P pr rg loc D m op:=rfl
  rw[this,Lp.2]at hc;exact hc
 have other:(match AN P loc D m op with|some ⟨h⟩=>some (⟨fun _ fr e s K=>roK (ap s (h fr e s)) fun v s=>qF v fun v=>K v s⟩:OC γ α)|none=>none)=some h→ ∃v s1,v≠ .und∧vy rc P e s op= .ok v s1∧K v s1= .ok v2 s2:=by
  intro hc
  split at hc
  ·rename_i g hg
   cases hc
   obtain⟨v,s1,h1,h2⟩:=F8 hv
   obtain⟨h3,h4⟩:=AU h2
   exact⟨v,s1,h3,by rw[T6 hg hi rc];exact h1,h4⟩
  ·cases hc
 unfold Hs at hc
 cases op with
 |store t x y=>
  simp only at hc
  split at hc
  ·rename_i gx gy g sz hgx hgy hs
   cases hc
   have hx:gx fr e'=qe e x:=qU hgx hi
   have hy:gy fr e'=qe e y:=qU hgy hi
   obtain⟨s1,h1,h2⟩:=Sh (p:=gx fr e') (x:=gy fr e') hs hv
   rw[hx,hy]at h1
   exact⟨_,s1,by simp,h1,h2⟩
  ·cases hc
 |alloc t=>
  simp only at hc
  obtain⟨h1,h2⟩:=O0 hc
  cases h2
  obtain⟨s1,h3,h4⟩:=Ou hv
  refine⟨_,s1,by simp,?_,h4⟩
  show ap s (BY P t s.nx)=_
  unfold BY
  have:isU (z4 P t)=false:=by cases hq:z4 P t<;>first|rfl|exact absurd hq h1
  rw[this];exact h3
 |box t x=>
  simp only at hc
  split at hc
  ·rename_i g hg
   cases hc
   have hx:g fr e'=qe e x:=qU hg hi
   obtain⟨h1,h2⟩:=PY hv
   obtain⟨s1,h3,h4⟩:=Ou h2
   rw[hx]at h1 h3
   refine⟨_,s1,by simp,?_,h4⟩
   show ap s (kBox s.nx (qe e x))=_
   unfold kBox
   rw[h1];exact h3
  ·cases hc
 |call cc=>
  obtain⟨cl,xs,ts⟩:=cc
  cases cl with
  |builtin b=>exact other hc
  |value f=>
   clear other
   obtain⟨r0⟩:=rg
   have dyn: ∀{gf:GV α}{l:VL α}{d:CD α}{r:γ→FuncId→Row→Nat→S→RO},gv loc D m f=some gf→gvs loc D m xs.toList=some l→dfs loc D m xs.toList=some d→r0=r→
     (@Option.rec (FuncId×List (Key×Nat)) (fun _=>RO) (.no [4]) (fun p=>d.f fr e' (roK ((fun vs=>r c p.1 (ji vs).c0 vs.length s) (l.f fr e'++p.2.map fun p=> .pp p.1 p.2)) K)) (vV (gf.f fr e'))= .ok v2 s2)→
     ∃v s1,v≠ .und∧vy rc P e s (.call {callee:= .value f,args:=xs,argTypes:=ts})= .ok v s1∧K v s1= .ok v2 s2:=by
    intro gf l d r hgf hl hd hrg hv
    have hf:=qU hgf hi
    have hx:=B3 hl hi
    cases hcal:vV (gf.f fr e')with
    |none=>rw[hcal]at hv;cases hv
    |some p=>
     rw[hcal]at hv
     obtain⟨g,ps⟩:=p
     obtain⟨h1,h2⟩:=D1 hd hi hv
     obtain⟨v,s1,h3,h4⟩:=F8 h2
     subst hrg
     obtain⟨h5,h7⟩:=hr.code _ _ _ _ _ _ h3
     rw[hx]at h5 h7
     have hao:=EA h1
     rw[GU h5]at h7
     obtain⟨h6,h7⟩:=h7 rfl fun x hx=>by
      rcases q1g.1 hx with hx|hx
      ·exact Jv hao x hx
      ·obtain⟨q,_,rfl⟩:=List.mem_map.1 hx;simp
     refine⟨v,s1,h6,?_,h4⟩
     show kcall rc s (vV (qe e f)) (evs e xs.toList)=_
     rw[←hf,hcal]
     show @Bool.rec (fun _=>RO) _ _ (Ai (evs e xs.toList))=_
     rw[hao]
     exact h7
   cases f with
   |func g=>
    simp only at hc
    have hcal:vV (qe e (.func g))=some (g,[]):=rfl
    split at hc
    ·rename_i h0 hp
     split at hc
     ·rename_i l d hl hd
      cases hc
      have hx:l fr e'=evs e xs.toList:=B3 hl hi
      obtain⟨h1,h2⟩:=D1 hd hi hv
      obtain⟨v,s1,h3,h4⟩:=F8 h2
      obtain⟨h5,h6⟩:=AU h4
      refine⟨v,s1,h5,?_,h6⟩
      show kcall rc s (vV (qe e (.func g))) (evs e xs.toList)=_
      rw[hcal]
      show @Bool.rec (fun _=>RO) _ (rc g (evs e xs.toList++[]) s) (Ai (evs e xs.toList))=_
      rw[EA h1,List.append_nil]
      rw[hx]at h3
      exact hr.prim g h0 hp _ _ _ _ h3
     ·cases hc
    ·split at hc
     ·rename_i w d r hw hd hrg
      cases hrg
      cases hc
      obtain⟨h1,h2⟩:=D1 hd hi hv
      obtain⟨v,s1,h3,h4⟩:=F8 h2
      obtain⟨h5,h7⟩:=hr.code _ _ _ _ _ _ h3
      have hrow:rowL (w fr e') xs.size=evs e xs.toList∧(ji (rowL (w fr e') xs.size)).c0=w fr e':=by
       have:=TX hw hi (by simpa using h5)
       simpa using this
      have hao:=EA h1
      obtain⟨h6,h7⟩:=h7 hrow.2 (by rw[hrow.1];exact Jv hao)
      rw[hrow.1]at h7
      refine⟨v,s1,h6,?_,h4⟩
      show kcall rc s (vV (qe e (.func g))) (evs e xs.toList)=_
      rw[hcal]
      show @Bool.rec (fun _=>RO) _ (rc g (evs e xs.toList++[]) s) (Ai (evs e xs.toList))=_
      rw[hao,List.append_nil]
      exact h7
     ·cases hc
   |tmp t=>
    simp only at hc
    split at hc
    ·rename_i gf l d r hgf hl hd hrg
     cases hrg
     cases hc
     exact dyn hgf hl hd rfl hv
    ·cases hc
   |const t=>
    simp only at hc
    split at hc
    ·rename_i gf l d r hgf hl hd hrg
     cases hrg
     cases hc
     exact dyn hgf hl hd rfl hv
    ·cases hc
   |global t=>
    simp only at hc
    split at hc
    ·rename_i gf l d r hgf hl hd hrg
     cases hrg
     cases hc
     exact dyn hgf hl hd rfl hv
    ·cases hc
  |_=>exact other hc
 |_=>exact other hc
end
end
noncomputable section
section
variable {v2:V} {s2:S} {α γ:Type} {P:Program} {pr:vH} {rg:RG γ} {loc D:Nat} {m:Mp α} {fr:α} {e' e:qa} {c:γ} {rc:FuncId→List V→S→RO}
theorem LE(t:Nat): ∀m:Mp α,vd t (upM m)=(vd t m).map Src.up
 |[]=>rfl
 |p::r=>by
  show(bif Nat.beq p.1 t then some p.2.up else vd t (upM r))=Option.map Src.up (bif Nat.beq p.1 t then some p.2 else vd t r)
  cases Nat.beq p.1 t with
  |true=>rfl
  |false=>exact LE t r
theorem Am(t t':Nat)(x:Src α)(m:Mp α):vd t ((t',x)::m)=bif Nat.beq t' t then some x else vd t m:=rfl
theorem je{t:Tmp}(ht:t<256)(v:V)(t':Nat):slot (jm e (some t) v) t'=if t'=t then v else slot e t':=C8 v ht t'
theorem SrcOk.up{t:Nat}{x:Src α}{v:V}(h:SrcOk loc fr e' e t x):SrcOk loc (⟨v,fr⟩:Fm α) e' e t x.up:=by
 cases x with
 |c u=>exact h
 |g d n f=>exact h
 |dead=>trivial
theorem SrcOk.env{t t0:Nat}{x:Src α}{v:V}{e1:qa}(he:slot e1 t=slot e t)(h:SrcOk loc fr e' e t x):SrcOk loc fr e' e1 t x:=by
 cases x with
 |c u=>exact⟨he.trans h.1,h.2⟩
 |g d n f=>exact⟨fun hd=>by rw[he];exact h.1 hd,fun e'' h1=>by rw[he];exact h.2.1 e'' h1,h.2.2⟩
 |dead=>trivial
theorem O7{t:Tmp}{v:V}(hi:Inv loc D m fr e' e)(ht:t<256)(hl:Nat.testBit loc t=true)(hv:v≠ .und):
  Inv loc D ((t,.g true 0 fun fr _=>fr.v)::upM m) (⟨v,fr⟩:Fm α) e' (jm e (some t) v):=by
 refine⟨fun t' h=>?_,fun t' x hx=>?_,fun t' h=>?_⟩
 ·rw[je ht]
  by_cases e:t'=t
  ·rw[e,hl]at h;cases h
  ·rw[if_neg e];exact hi.ag t' h
 ·rw[Am]at hx
  cases hb:Nat.beq t t' with
  |true=>
   rw[hb,cond_true]at hx
   have:=q1B hb
   subst this
   cases hx
   have e1:slot (jm e (some t) v) t=v:=by rw[je ht,if_pos rfl]
   exact⟨hl,fun _=>by rw[e1];exact hv,fun e'' _=>e1.symm,fun t' h=>by cases h⟩
  |false=>
   rw[hb,cond_false,LE]at hx
   cases hf:vd t' m with
   |none=>rw[hf]at hx;cases hx
   |some y=>
    rw[hf]at hx;cases hx
    obtain⟨h1,h2⟩:=hi.mp t' y hf
    have hne: ¬t'=t:=fun e=>by rw[e]at hb;simp at hb
    exact⟨h1,(h2.env (t0:=0) (v:=v) (by rw[je ht,if_neg hne])).up⟩
 ·rw[je ht]
  by_cases e:t'=t
  ·rw[if_pos e];exact hv
  ·rw[if_neg e];exact hi.df t' h
theorem EN{t:Tmp}{v:V}{x:Src α}(hi:Inv loc D m fr e' e)(ht:t<256)(hl:Nat.testBit loc t=true)(hv:v≠ .und)(hx:SrcOk loc fr e' (jm e (some t) v) t x):
  Inv loc D ((t,x)::m) fr e' (jm e (some t) v):=by
 refine⟨fun t' h=>?_,fun t' y hy=>?_,fun t' h=>?_⟩
 ·rw[je ht]
  by_cases e:t'=t
  ·rw[e,hl]at h;cases h
  ·rw[if_neg e];exact hi.ag t' h
 ·rw[Am]at hy
  cases hb:Nat.beq t t' with
  |true=>
   rw[hb,cond_true]at hy
   have:=q1B hb
   subst this
   cases hy
   exact⟨hl,hx⟩
  |false=>
   rw[hb,cond_false]at hy
   obtain⟨h1,h2⟩:=hi.mp t' y hy
   have hne: ¬t'=t:=fun e=>by rw[e]at hb;simp at hb
   exact⟨h1,h2.env (t0:=0) (v:=v) (by rw[je ht,if_neg hne])⟩
 ·rw[je ht]
  by_cases e:t'=t
  ·rw[if_pos e];exact hv
  ·rw[if_neg e];exact hi.df t' h
theorem HC{t0 t:Nat}{x:Src α}: ∀{m:Mp α},vd t (zn t0 m)=some x→x= .dead∨(vd t m=some x∧ ∀d n f,x= .g d n f→n≠t0+1)
 |[],h=>by cases h
 |(q,y)::r,h=>by
  have h:(bif Nat.beq q t then some (Pk t0 y)else vd t (zn t0 r))=some x:=h
  rw[Am]
  cases hb:Nat.beq q t with
  |true=>
   rw[hb,cond_true]at h
   have h:=Option.some.inj h
   subst h
   cases y with
   |c v=>exact .inr ⟨rfl,fun d n f e=>by cases e⟩
   |dead=>exact .inl rfl
   |g d n f=>
    show(bif Nat.beq n (t0+1)then Src.dead else .g d n f)= .dead∨(_=some (bif Nat.beq n (t0+1)then Src.dead else .g d n f)∧ ∀d' n' f',(bif Nat.beq n (t0+1)then Src.dead else .g d n f)= .g d' n' f'→n'≠t0+1)
    cases hn:Nat.beq n (t0+1)with
    |true=>exact .inl rfl
    |false=>exact .inr ⟨rfl,fun d' n' f' e=>by cases e;intro e2;rw[e2]at hn;simp at hn⟩
  |false=>
   rw[hb,cond_false]at h
   exact HC h
theorem BD{t:Tmp}{v:V}(hi:Inv loc D m fr e' e)(ht:t<256)(hl:Nat.testBit loc t=false)(hv:v≠ .und):
  Inv loc (D|||2^t) (zn t m) fr ((sT t).f v e') (jm e (some t) v):=by
 have hs: ∀t',slot ((sT t).f v e') t'=if t'=t then v else slot e' t':=fun t'=>by rw[q0w];exact C8 v ht t'
 refine⟨fun t' h=>?_,fun t' x hx=>?_,fun t' h=>?_⟩
 ·rw[hs,je ht]
  by_cases e:t'=t
  ·rw[if_pos e,if_pos e]
  ·rw[if_neg e,if_neg e];exact hi.ag t' h
 ·rcases HC hx with rfl|⟨hx,hn⟩
  ·refine⟨?_,trivial⟩
   --its name is still local
   have: ∀m:Mp α,(∀y,vd t' m=some y→Nat.testBit loc t'=true)→ ∀y,vd t' (zn t m)=some y→Nat.testBit loc t'=true:=by
    intro m
    induction m with
    |nil=>intro _ y h;cases h
    |cons p r ih=>
     intro hm y h
     obtain⟨q,z⟩:=p
     have h:(bif Nat.beq q t' then some (Pk t z)else vd t' (zn t r))=some y:=h
     cases hb:Nat.beq q t' with
     |true=>exact hm z (by rw[Am,hb];rfl)
     |false=>
      rw[hb,cond_false]at h
      exact ih (fun y hy=>hm y (by rw[Am,hb];exact hy)) y h
   exact this m (fun y hy=>(hi.mp t' y hy).1) _ hx
  ·obtain⟨h1,h2⟩:=hi.mp t' x hx
   have hne: ¬t'=t:=fun e=>by rw[e,hl]at h1;cases h1
   have he:slot (jm e (some t) v) t'=slot e t':=by rw[je ht,if_neg hne]
   refine⟨h1,?_⟩
   cases x with
   |c u=>exact⟨he.trans h2.1,h2.2⟩
   |dead=>trivial
   |g d n f=>
    refine⟨fun hd=>by rw[he];exact h2.1 hd,fun e'' h3=>?_,h2.2.2⟩
    rw[he]
    refine h2.2.1 e'' fun q hq=>?_
    rw[h3 q hq,hs,if_neg]
    intro e
    subst e
    exact hn d n f rfl hq
 ·rw[je ht]
  by_cases e:t'=t
  ·rw[if_pos e];exact hv
  ·rw[if_neg e]
   refine hi.df t' ?_
   rw[Nat.testBit_or,Nat.testBit_two_pow,Bool.or_eq_true]at h
   rcases h with h|h
   ·exact h
   ·exact absurd (of_decide_eq_true h).symm e
def Cont(k:Kont γ α)(loc:Nat)(fr:α)(c:γ)(e1:qa)(s1:S)(v2:V)(s2:S):Prop:=
 ∃(β:Type)(p:β→α)(mβ:Mp β)(Dβ:Nat)(fb:β)(eb:qa),p fb=fr∧Inv loc Dβ mβ fb eb e1∧(k β p mβ Dβ).f c fb eb s1= .ok v2 s2
theorem NY{k:Kont γ α}{dst:Option Tmp}{h:VC α}{s:S}(hd: ∀t,dst=some t→t<256)(hi:Inv loc D m fr e' e)(hf:(finV loc D m k dst h).f c fr e' s= .ok v2 s2):
  ∃K,h.f fr e' s K= .ok v2 s2∧ ∀v,v≠ .und→K v= .ok v2 s2→Cont k loc fr c (jm e dst v) s v2 s2:=by
 have hf:(KA loc D m k dst h).f c fr e' s= .ok v2 s2:=by
  have:finV loc D m k dst h=Pp.1 loc D m k dst h:=rfl
  rw[this,Pp.2]at hf;exact hf
 obtain⟨h⟩:=h
 unfold KA at hf
 cases dst with
 |none=>
  simp only at hf
  generalize hk:k α id m D=q at hf
  obtain⟨K⟩:=q
  exact⟨_,hf,fun v hv hK=>⟨α,id,m,D,fr,e',rfl,hi,by rw[hk];exact hK⟩⟩
 |some t=>
  simp only at hf
  cases hl:Nat.testBit loc t with
  |true=>
   rw[hl,cond_true]at hf
   generalize hk:k (Fm α) (fun f=>f.r) ((t,.g true 0 fun fr _=>fr.v)::upM m) D=q at hf
   obtain⟨K⟩:=q
   exact⟨_,hf,fun v hv hK=>⟨Fm α,fun f=>f.r,_,D,⟨v,fr⟩,e',rfl,O7 hi (hd t rfl) hl hv,by rw[hk];exact hK⟩⟩
  |false=>
   rw[hl,cond_false]at hf
   generalize hk:k α id (zn t m) (D|||2^t)=q at hf
   generalize hs:sT t=st at hf
   obtain⟨K⟩:=q
   obtain⟨st⟩:=st
   refine⟨_,hf,fun v hv hK=>⟨α,id,_,_,fr,st v e',rfl,?_,by rw[hk];exact hK⟩⟩
   have:=BD (v:=v) hi (hd t rfl) hl hv
   rw[hs]at this;exact this
theorem NX{k:Kont γ α}{dst:Option Tmp}{h:OC γ α}{s:S}(hd: ∀t,dst=some t→t<256)(hi:Inv loc D m fr e' e)(hf:(finO loc D m k dst h).f c fr e' s= .ok v2 s2):
  ∃K,h.f c fr e' s K= .ok v2 s2∧ ∀v s1,v≠ .und→K v s1= .ok v2 s2→Cont k loc fr c (jm e dst v) s1 v2 s2:=by
 have hf:(Kz loc D m k dst h).f c fr e' s= .ok v2 s2:=by
  have:finO loc D m k dst h=Po.1 loc D m k dst h:=rfl
  rw[this,Po.2]at hf;exact hf
 obtain⟨h⟩:=h
 unfold Kz at hf
 cases dst with
 |none=>
  simp only at hf
  generalize hk:k α id m D=q at hf
  obtain⟨K⟩:=q
  exact⟨_,hf,fun v s1 hv hK=>⟨α,id,m,D,fr,e',rfl,hi,by rw[hk];exact hK⟩⟩
 |some t=>
  simp only at hf
  cases hl:Nat.testBit loc t with
  |true=>
   rw[hl,cond_true]at hf
   generalize hk:k (Fm α) (fun f=>f.r) ((t,.g true 0 fun fr _=>fr.v)::upM m) D=q at hf
   obtain⟨K⟩:=q
   exact⟨_,hf,fun v s1 hv hK=>⟨Fm α,fun f=>f.r,_,D,⟨v,fr⟩,e',rfl,O7 hi (hd t rfl) hl hv,by rw[hk];exact hK⟩⟩
  |false=>
   rw[hl,cond_false]at hf
   generalize hk:k α id (zn t m) (D|||2^t)=q at hf
   generalize hs:sT t=st at hf
   obtain⟨K⟩:=q
   obtain⟨st⟩:=st
   refine⟨_,hf,fun v s1 hv hK=>⟨α,id,_,_,fr,st v e',rfl,?_,by rw[hk];exact hK⟩⟩
   have:=BD (v:=v) hi (hd t rfl) hl hv
   rw[hs]at this;exact this
theorem Vr{k:Kont γ α}{dst:Option Tmp}{x:Operand}{y:Src α}{s:S}(hd: ∀t,dst=some t→t<256)(hi:Inv loc D m fr e' e)(hs:src loc D m x=some y)(hf:(finM loc D m k dst y).f c fr e' s= .ok v2 s2):
  qe e x≠ .und∧Cont k loc fr c (jm e dst (qe e x)) s v2 s2:=by
 have hf:(Ky loc D m k dst y).f c fr e' s= .ok v2 s2:=by
  have:finM loc D m k dst y=Pn.1 loc D m k dst y:=rfl
  rw[this,Pn.2]at hf;exact hf
 have ho:=wP hs hi
 unfold Ky at hf
 cases dst with
 |none=>
  cases y with
  |g d n f=>cases d<;>cases hf
  |_=>cases hf
 |some t=>
  have ht:=hd t rfl
  have e1: ∀v,slot (jm e (some t) v) t=v:=fun v=>by rw[je ht,if_pos rfl]
  cases y with
  |dead=>cases hf
  |c v=>
   obtain⟨h1,h2⟩:=ho.1 v rfl
   rw[h1]
   refine⟨h2,?_⟩
   simp only at hf
   cases hl:Nat.testBit loc t with
   |true=>
    rw[hl,cond_true]at hf
    exact⟨α,id,_,D,fr,e',rfl,EN (x:= .c v) hi ht hl h2 ⟨e1 v,h2⟩,hf⟩
   |false=>
    rw[hl,cond_false]at hf
    generalize hk:k α id (zn t m) (D|||2^t)=q at hf
    generalize hst:sT t=st at hf
    obtain⟨K⟩:=q
    obtain⟨st⟩:=st
    have:=BD (v:=v) hi ht hl h2
    rw[hst]at this
    exact⟨α,id,_,_,fr,st v e',rfl,this,by rw[hk];exact hf⟩
  |g d n f=>
   obtain⟨h1,h2,h3,h4⟩:=ho.2 d n f rfl
   have alias:qe e x≠ .und→SrcOk loc fr e' (jm e (some t) (qe e x)) t (.g true n f):=fun hn=>⟨fun _=>by rw[e1];exact hn,fun e'' h=>by rw[e1];exact h3 e'' h,h4⟩
   cases d with
   |true=>
    have hn:=h2 rfl
    refine⟨hn,?_⟩
    simp only at hf
    cases hl:Nat.testBit loc t with
    |true=>
     rw[hl,cond_true]at hf
     exact⟨α,id,_,D,fr,e',rfl,EN hi ht hl hn (alias hn),hf⟩
    |false=>
     rw[hl,cond_false]at hf
     generalize hk:k α id (zn t m) (D|||2^t)=q at hf
     generalize hst:sT t=st at hf
     obtain⟨K⟩:=q
     obtain⟨st⟩:=st
     have:=BD (v:=qe e x) hi ht hl hn
     rw[hst]at this
     have hf:K c fr (st (f fr e') e') s= .ok v2 s2:=hf
     rw[h1]at hf
     exact⟨α,id,_,_,fr,st (qe e x) e',rfl,this,by rw[hk];exact hf⟩
   |false=>
    simp only at hf
    cases hl:Nat.testBit loc t with
    |true=>
     rw[hl,cond_true]at hf
     generalize hk:k α id ((t,.g true n f)::m) D=q at hf
     obtain⟨K⟩:=q
     obtain⟨hn,hf⟩:=UG (show qD (f fr e') _= .ok v2 s2 from hf)
     rw[h1]at hn
     exact⟨hn,α,id,_,D,fr,e',rfl,EN hi ht hl hn (alias hn),by rw[hk];exact hf⟩
    |false=>
     rw[hl,cond_false]at hf
     generalize hk:k α id (zn t m) (D|||2^t)=q at hf
     generalize hst:sT t=st at hf
     obtain⟨K⟩:=q
     obtain⟨st⟩:=st
     obtain⟨hn,hf⟩:=AU (show qF (f fr e') (fun v=>K c fr (st v e') s)= .ok v2 s2 from hf)
     rw[h1]at hn hf
     have:=BD (v:=qe e x) hi ht hl hn
     rw[hst]at this
     exact⟨hn,α,id,_,_,fr,st (qe e x) e',rfl,this,by rw[hk];exact hf⟩
theorem QG{k:Kont γ α}{o:Oper}{s:S}(hr:RcLe pr (rg.f c) rc)(hd: ∀t,o.dst=some t→t<256)(hi:Inv loc D m fr e' e)(hf:(Lr P pr rg loc D m k o).f c fr e' s= .ok v2 s2):
  ∃v s1,v≠ .und∧vy rc P e s o.op= .ok v s1∧Cont k loc fr c (jm e o.dst v) s1 v2 s2:=by
 unfold Lr at hf
 have mv: ∀{x:Operand}{y:Src α},src loc D m x=some y→(o.op= .move x∨o.op= .assign x)→(finM loc D m k o.dst y).f c fr e' s= .ok v2 s2→ ∃v s1,v≠ .und∧vy rc P e s o.op= .ok v s1∧Cont k loc fr c (jm e o.dst v) s1 v2 s2:=by
  intro x y hs hop hf
  obtain⟨h1,h2⟩:=Vr hd hi hs hf
  refine⟨_,s,h1,?_,h2⟩
  have hk:ap s (AR (qe e x))= .ok (qe e x) s:=by
   unfold AR
   have:isU (qe e x)=false:=by cases hq:qe e x<;>first|rfl|exact absurd hq h1
   rw[this];rfl
  rcases hop with h|h<;>rw[h]<;>exact hk
 split at hf
 ·rename_i y hy
  split at hy
  ·rename_i x hop;exact mv hy (.inl hop) hf
  ·rename_i x hop;exact mv hy (.inr hop) hf
  ·cases hy
 ·split at hf
  ·rename_i h hc
   obtain⟨K,h1,h2⟩:=NY hd hi hf
   obtain⟨v,h3,h4,h5⟩:=T8 hc hi h1
   exact⟨v,s,h3,h4 rc,h2 v h3 h5⟩
  ·split at hf
   ·rename_i h hc
    obtain⟨K,h1,h2⟩:=NX hd hi hf
    obtain⟨v,s1,h3,h4,h5⟩:=Lq hr hc hi h1
    exact⟨v,s1,h3,h4,h2 v s1 h3 h5⟩
   ·cases hf
def StepR(rc:FuncId→List V→S→RO)(P:Program)(all:List Oper)(o:Oper)(e:qa)(s:S)(e1:qa)(s1:S):Prop:=
 (jk all e o.guard=some false∧e1=jm e o.dst (.tu [])∧s1=s)∨(jk all e o.guard=some true∧ ∃v,v≠ .und∧vy rc P e s o.op= .ok v s1∧e1=jm e o.dst v)
theorem LG {all : List Oper} {o : Oper} {run skip : CF γ α} {s : S} (hd : ∀ t, o.dst = some t → t < 256) (hi : Inv loc D m fr e' e) (hf : (gdC loc D m all o run skip).f c fr e' s = .ok v2 s2) :
  (jk all e o.guard = some true ∧ run.f c fr e' s = .ok v2 s2) ∨
   (jk all e o.guard = some false ∧ ∃ e1', Inv loc (skD D o.dst) (skM m o.dst) fr e1' (jm e o.dst (.tu [])) ∧ skip.f c fr e1' s = .ok v2 s2) := by
 have hf : (gdC0 loc D m all o run skip).f c fr e' s = .ok v2 s2 := by
  have : gdC loc D m all o run skip = gdCP.1 loc D m all o run skip := rfl
  rw [this, gdCP.2] at hf; exact hf
 unfold gdC0 at hf
 cases hg : o.guard with
 | none => rw [hg] at hf; exact .inl ⟨rfl, hf⟩
 | some jw =>
  obtain ⟨j, w⟩ := jw
  rw [hg] at hf
  simp only at hf
  split at hf
  ·rename_i t ht
   split at hf
   ·rename_i g hgv
    have hx : g fr e' = slot e t := qU hgv hi
    have hgk : ∀ b, slot e t = .bb b → jk all e (some (j, w)) = some (@Bool.rec (fun _ => Bool) (!b) b w) := fun b hb => by
     unfold jk; simp only; rw [ht]; simp only; rw [hb]
    have hgt : slot e t = .tu [] → jk all e (some (j, w)) = some false := fun hb => by
     unfold jk; simp only; rw [ht]; simp only; rw [hb]
    have main : ∀ (A B : RO), qG (g fr e') (fun b => @Bool.rec (fun _ => RO) A B (@Bool.rec (fun _ => Bool) (notB b) b w)) A = .ok v2 s2 →
      (jk all e (some (j, w)) = some true ∧ B = .ok v2 s2) ∨ (jk all e (some (j, w)) = some false ∧ A = .ok v2 s2) := by
     intro A B h
     rcases q0q h with ⟨b, eb, h⟩ | ⟨eb, h⟩
     ·rw [hx] at eb
      rw [hgk b eb]
      rw [J7] at h
      cases hw : (@Bool.rec (fun _ => Bool) (!b) b w) with
      | true => rw [hw] at h; exact .inl ⟨rfl, h⟩
      | false => rw [hw] at h; exact .inr ⟨rfl, h⟩
     ·rw [hx] at eb
      exact .inr ⟨hgt eb, h⟩
    split at hf
    ·rename_i d hdst
     cases hl : Nat.testBit loc d with
     | true => rw [hl, cond_true] at hf; cases hf
     | false =>
      rw [hl, cond_false] at hf
      generalize hst : sT d = st at hf
      obtain ⟨st⟩ := st
      rcases main _ _ hf with h | ⟨h1, h2⟩
      ·exact .inl h
      ·refine .inr ⟨h1, st (.tu []) e', ?_, h2⟩
       rw [hdst]
       have := BD (v := .tu []) hi (hd d hdst) hl (by simp)
       rw [hst] at this; exact this
    ·rename_i hdst
     rcases main _ _ hf with h | ⟨h1, h2⟩
     ·exact .inl h
     ·refine .inr ⟨h1, e', ?_, h2⟩
      rw [hdst]; exact hi
   ·cases hf
  ·cases hf
theorem Lo{k:Kont γ α}{all:List Oper}{o:Oper}{s:S}(hr:RcLe pr (rg.f c) rc)(hd: ∀t,o.dst=some t→t<256)(hi:Inv loc D m fr e' e)(hf:(DF P pr rg loc D m k all o).f c fr e' s= .ok v2 s2):
  ∃e1 s1,StepR rc P all o e s e1 s1∧Cont k loc fr c e1 s1 v2 s2:=by
 unfold DF at hf
 rcases LG hd hi hf with⟨h1,h2⟩|⟨h1,e1',h2,h3⟩
 ·obtain⟨v,s1,h3,h4,h5⟩:=QG hr hd hi h2
  exact⟨_,s1,.inr ⟨h1,v,h3,h4,rfl⟩,h5⟩
 ·exact⟨_,s,.inl ⟨h1,rfl,rfl⟩,α,id,_,_,fr,e1',rfl,h2,h3⟩
theorem U5{all r:List Oper}{o:Oper}{s s1:S}{e1:qa}(h:StepR rc P all o e s e1 s1):wO rc P all (o::r) e s=wO rc P all r e1 s1:=by
 rcases h with⟨h1,rfl,rfl⟩|⟨h1,v,_,h2,rfl⟩
 ·show @Option.rec Bool (fun _=>R) _ _ (jk all e o.guard)=_
  rw[h1];rfl
 ·show @Option.rec Bool (fun _=>R) _ _ (jk all e o.guard)=_
  rw[h1]
  show @RO.rec (fun _=>R) _ _ _ (vy rc P e s o.op)=_
  rw[h2];rfl
def Ah(e e1:qa):Prop:= ∀t,slot e t≠ .und→slot e1 t≠ .und
theorem EP{o:Option Tmp}{v:V}(hd: ∀t,o=some t→t<256)(hv:v≠ .und):Ah e (jm e o v):=by
 intro t ht
 cases o with
 |none=>exact ht
 |some d=>
  rw[je (hd d rfl)]
  split
  ·exact hv
  ·exact ht
theorem StepR.keeps{all:List Oper}{o:Oper}{s s1:S}{e1:qa}(h:StepR rc P all o e s e1 s1)(hd: ∀t,o.dst=some t→t<256):Ah e e1∧ ∀t,o.dst=some t→slot e1 t≠ .und:=by
 have key: ∀v:V,v≠ .und→Ah e (jm e o.dst v)∧ ∀t,o.dst=some t→slot (jm e o.dst v) t≠ .und:=fun v hv=>⟨EP hd hv,fun t ht=>by rw[ht,je (hd t ht),if_pos rfl];exact hv⟩
 rcases h with⟨_,rfl,rfl⟩|⟨_,v,hv,_,rfl⟩
 ·exact key _ (by simp)
 ·exact key v hv
theorem Ht{nrm:CK γ}{all:List Oper}(hr:RcLe pr (rg.f c) rc): ∀(l:List Oper){α:Type}{m:Mp α}{D:Nat}{fr:α}{e' e:qa}{s:S},(∀o∈l,∀t,o.dst=some t→t<256)→Inv loc D m fr e' e→
  (Bx P pr rg loc nrm all l α m D).f c fr e' s= .ok v2 s2→
  ∃e1 s1 e1',wO rc P all l e s= .ok .nrm e1 s1∧(∀t,Nat.testBit loc t=false→slot e1' t=slot e1 t)∧Ah e e1∧(∀o∈l,∀t,o.dst=some t→slot e1 t≠ .und)∧nrm.f c e1' s1= .ok v2 s2
 |[],α,m,D,fr,e',e,s,hd,hi,hf=>by
  refine⟨e,s,e',rfl,hi.ag,fun t h=>h,fun o ho=>(by simp at ho),?_⟩
  obtain⟨f⟩:=nrm
  exact hf
 |o::l,α,m,D,fr,e',e,s,hd,hi,hf=>by
  have hf:(DF P pr rg loc D m (fun β _ m D=>Bx P pr rg loc nrm all l β m D) all o).f c fr e' s= .ok v2 s2:=hf
  obtain⟨e1,s1,h1,β,p,mb,Db,fb,eb,_,h2,h3⟩:=Lo hr (hd o q1j) hi hf
  obtain⟨e2,s3,e2',g1,g2,g3,g4,g5⟩:=Ht hr l (fun o ho=>hd o (q1i _ ho)) h2 h3
  obtain⟨k1,k2⟩:=h1.keeps (hd o q1j)
  refine⟨e2,s3,e2',by rw[U5 h1];exact g1,g2,fun t h=>g3 t (k1 t h),fun o' ho t ht=>?_,g5⟩
  rcases q1h.1 ho with rfl|ho
  ·exact g3 t (k2 t ht)
  ·exact g4 o' ho t ht
theorem FD(hag: ∀t,Nat.testBit loc t=false→slot e' t=slot e t)(hdf: ∀t,Nat.testBit D t=true→slot e t≠ .und):Inv loc D ([]:Mp Unit) () e' e:=⟨hag,fun t x h=>(by cases h),hdf⟩
end
end
noncomputable section
theorem D9{a b:Key}(h:keyB a b=true):a=b:=by
 unfold keyB at h
 simp only[jx]at h
 obtain⟨h1,h2,h3,h4⟩:=h
 have e1:=D16.n_inj (q1B h1)
 have e2:=D16.n_inj (q1B h2)
 have e3:=D16.n_inj (q1B h3)
 have e4:=D16.n_inj (q1B h4)
 cases a;cases b;simp_all
theorem Ld{a b:Bool}(h:Pd a b=true):a=b:=by cases a<;>cases b<;>first|rfl|cases h
theorem Od{a b:IntKind}(h:keqF a b=true):a=b:=D8 (by rw[←Oc];exact h)
theorem L5{a b:V}(h:Hj a b=true):a=b:=by
 unfold Hj at h
 split at h
 ·simp only[jx]at h;rw[Od h.1,q1B h.2]
 ·simp only[jx]at h;rw[Od h.1,q1B h.2]
 ·rw[Ld h]
 ·simp only[jx]at h;rw[Ld h.1,q1B h.2.1,q1B h.2.2]
 ·rw[q1B h]
 ·simp only[jx]at h;rw[D9 h.1,q1B h.2]
 ·simp only[jx]at h;rw[D9 h.1,q1B h.2.1,q1B h.2.2.1,q1B h.2.2.2]
 ·simp only[jx]at h;rw[D9 h.1,q1B h.2.1,q1B h.2.2.1,q1B h.2.2.2.1,q1B h.2.2.2.2]
 ·simp only[jx]at h;rw[D9 h.1,q1B h.2.1,q1B h.2.2.1,q1B h.2.2.2]
 ·rw[D9 h]
 ·simp only[jx]at h;rw[q1B h.1,q1B h.2]
 ·rfl
 ·rfl
 ·rw[Gt.1 h]
 ·simp only[jx]at h;rw[q1B h.1,q1B h.2]
 ·cases h
theorem L6: ∀{a b:List V},Ku a b=true→a=b
 |[],[],_=>rfl
 |a::l,b::r,h=>by
  have h:jh (Hj a b) (Ku l r)=true:=h
  rw[jx]at h
  rw[L5 h.1,L6 h.2]
 |[],_::_,h=>by cases h
 |_::_,[],h=>by cases h
theorem V2{a b:V}(h:beqV a b=true):a=b:=by
 unfold beqV at h
 split at h
 ·simp only[jx]at h;rw[q1B h.1,L6 h.2]
 ·exact L5 h
section
variable {v2:V} {s2:S} {γ:Type} {P:Program} {pr:vH} {rg:RG γ} {loc:Nat} {c:γ} {rc:FuncId→List V→S→RO}
theorem JE{α β:Type}(f:Src α→Src β)(t:Nat): ∀m:Mp α,vd t (m.map fun p=>(p.1,f p.2))=(vd t m).map f
 |[]=>rfl
 |p::r=>by
  show(bif Nat.beq p.1 t then some (f p.2)else vd t (r.map fun p=>(p.1,f p.2)))=Option.map f (bif Nat.beq p.1 t then some p.2 else vd t r)
  cases Nat.beq p.1 t with
  |true=>rfl
  |false=>exact JE f t r
theorem O8{α β:Type}{D:Nat}{m:Mp α}{fr:α}{fr2:β}{e' e:qa}(f:Src α→Src β)(hf: ∀t x,SrcOk loc fr e' e t x→SrcOk loc fr2 e' e t (f x))(hi:Inv loc D m fr e' e):Inv loc D (m.map fun p=>(p.1,f p.2)) fr2 e' e:=by
 refine⟨hi.ag,fun t x hx=>?_,hi.df⟩
 rw[JE]at hx
 cases h:vd t m with
 |none=>rw[h]at hx;cases hx
 |some y=>
  rw[h]at hx;cases hx
  obtain⟨h1,h2⟩:=hi.mp t y h
  exact⟨h1,hf t y h2⟩
theorem Re{α:Type}{D:Nat}{m:Mp α}{fr:α}{e' e:qa}(v:V)(hi:Inv loc D m fr e' e):Inv loc D (upM m) (⟨v,fr⟩:Fm α) e' e:=O8 Src.up (fun t x h=>h.up) hi
theorem XQ{α:Type}{D:Nat}{m:Mp α}{fr:α}{e' e:qa}(s:S)(hi:Inv loc D m fr e' e):Inv loc D (m.map fun p=>(p.1,p.2.us)) (⟨s,fr⟩:Fs α) e' e:=
 O8 Src.us (fun t x h=>by cases x<;>exact h) hi
def HsOk{α:Type}(hs:List (Option (GS α)))(fr:α)(ss:Nat→S)(i:Nat):Prop:=hs.length=i∧ ∀u g,hs[u]?=some (some g)→g.f fr=ss u
def LdOk{α:Type}(P:Program)(all:List Oper)(M:List Nat)(ld:List (LD α))(fr:α)(es:Nat→qa)(ss:Nat→S)(i:Nat):Prop:=
 ∀d∈ld,d.i<i∧ ∃t x,(qE all d.i).op= .load t x∧qA P t=some (d.g,d.sz)∧(d.g=false→d.sz=1)∧
  ((d.sk=true∧jk all (es d.i) (qE all d.i).guard=some false)∨(d.sk=false∧d.p fr=qe (es d.i) x∧d.v fr≠ .und∧(jb P (rmK (ss d.i).m (zOf P ss all M d.i)) t (qe (es d.i) x)).res=d.v fr))
theorem LB{α:Type}{j:Nat}: ∀{ld:List (LD α)}{d:LD α},HA j ld=some d→d∈ld∧d.i=j
 |[],d,h=>by cases h
 |a::r,d,h=>by
  have h:(bif Nat.beq a.i j then some a else HA j r)=some d:=h
  cases hb:Nat.beq a.i j with
  |true=>rw[hb]at h;cases h;exact⟨by simp,q1B hb⟩
  |false=>rw[hb]at h;obtain⟨h1,h2⟩:=LB h;exact⟨by simp[h1],h2⟩
theorem EO{β:Type}{o:Option (Option β)}{x:β}(h:o.join=some x):o=some (some x):=by
 cases o with
 |none=>cases h
 |some o=>cases o with
  |none=>cases h
  |some y=>cases h;rfl
def Kp(P:Program)(g:Bool)(sz:Nat)(m:qV)(p v:V):Prop:=(g=false→sz=1)→ ∀t,qA P t=some (g,sz)→(jb P m t p).res=v
theorem Du{g:Bool}{sz:Nat}{m:qV}{p v:V}{z:RO}(h:ze g sz m p (fun w=> @Bool.rec (fun _=>RO) (.no [101]) z (beqV w v))= .ok v2 s2):((g=false→sz=1)→Kp P g sz m p v)∧z= .ok v2 s2:=by
 have hz:z= .ok v2 s2:=by
  have key: ∀(hs:Bool),True:=fun _=>trivial
  unfold ze at h
  rcases Ec h with⟨k,o,e,h'⟩|⟨k,i,o,w,e,h'⟩
  ·obtain⟨v',hb,h'⟩:=LS h'
   exact part_z h'
  ·rcases LT h' with⟨es,n,q,hb,h'⟩|⟨es,n,q,hb,h'⟩<;>obtain⟨hc,h'⟩:=vk h'<;>exact part_z h'
 refine⟨fun hs _ t ht=>?_,hz⟩
 obtain⟨u,ks,h1,h2,h3⟩:=FL (P:=P) (part:=fun v' o=>wC g sz v' o fun w=> @Bool.rec (fun _=>RO) (.no [101]) z (beqV w v)) ht (fun v' o ks h=>Mt ks hs h) h
 obtain⟨h4,_⟩:=vk h2
 rw[h3,←V2 h4];rfl
where
 part_z {g:Bool} {sz:Nat} {v v':V} {o:Nat} {z:RO} (h:wC g sz v' o (fun w=> @Bool.rec (fun _=>RO) (.no [101]) z (beqV w v))= .ok v2 s2):z= .ok v2 s2:=by
  cases g with
  |true=>
   obtain⟨u,_,h1,_⟩:=LX [] (show ldA v' sz o _ _= .ok v2 s2 from h)
   exact(vk h1).2
  |false=>
   obtain⟨u,_,h1,_⟩:=LW [] (show ld1 v' o _= .ok v2 s2 from h)
   exact(vk h1).2
theorem Fx{α:Type}{n:Nat}{hs:List (Option (GS α))}{ld:List (LD α)}{fr:α}{s:S}: ∀{L:List (Nat×Nat)}{b:BL α}{z:RO},chkL n hs ld L=some b→b.f fr s z= .ok v2 s2→z= .ok v2 s2∧ ∀q∈L,∃d g,HA q.1 ld=some d∧hs[q.2]?=some (some g)∧
  (d.sk=true∨(((d.g=false→d.sz=1)→Kp P d.g d.sz (g.f fr).m (d.p fr) (d.v fr))∧((q.2+1=n∧((d.g=false→d.sz=1)→Kp P d.g d.sz s.m (d.p fr) (d.v fr)))∨ ∃g',hs[q.2+1]?=some (some g')∧((d.g=false→d.sz=1)→Kp P d.g d.sz (g'.f fr).m (d.p fr) (d.v fr)))))
 |[],b,z,h,hb=>by cases h;exact⟨hb,fun q hq=>by simp at hq⟩
 |p::r,b,z,h,hb=>by
  unfold chkL at h
  split at h
  ·rename_i i0 sk gg sz pp vv g b' h1 h2 h3
   have h2:=EO h2
   cases hsk:sk with
   |true=>
    rw[hsk,cond_true]at h;cases h
    obtain⟨k1,k2⟩:=Fx h3 hb
    refine⟨k1,fun q hq=>?_⟩
    rcases q1h.1 hq with rfl|hq
    ·exact⟨_,⟨g⟩,h1,h2,.inl hsk⟩
    ·exact k2 q hq
   |false=>
    rw[hsk,cond_false]at h
    cases hn:Nat.beq (p.2+1) n with
    |true=>
     rw[hn,cond_true]at h;cases h
     obtain⟨a1,hb⟩:=Du (P:=P) hb
     obtain⟨a2,hb⟩:=Du (P:=P) hb
     obtain⟨k1,k2⟩:=Fx h3 hb
     refine⟨k1,fun q hq=>?_⟩
     rcases q1h.1 hq with rfl|hq
     ·exact⟨_,⟨g⟩,h1,h2,.inr ⟨a1,.inl ⟨q1B hn,a2⟩⟩⟩
     ·exact k2 q hq
    |false=>
     rw[hn,cond_false]at h
     split at h
     ·rename_i g' h4
      have h4:=EO h4
      cases h
      obtain⟨a1,hb⟩:=Du (P:=P) hb
      obtain⟨a2,hb⟩:=Du (P:=P) hb
      obtain⟨k1,k2⟩:=Fx h3 hb
      refine⟨k1,fun q hq=>?_⟩
      rcases q1h.1 hq with rfl|hq
      ·exact⟨_,⟨g⟩,h1,h2,.inr ⟨a1,.inr ⟨⟨g'⟩,h4,a2⟩⟩⟩
      ·exact k2 q hq
     ·cases h
  ·cases h
theorem GS.by_f{α β:Type}(g:GS α)(p:β→α)(fb:β):(g.by p).f fb=g.f (p fb):=by obtain⟨f⟩:=g;rfl
theorem KD{α β:Type}{hs:List (Option (GS α))}{fr:α}{ss:Nat→S}{i:Nat}(h:HsOk hs fr ss i){p:β→α}{fb:β}(hp:p fb=fr):HsOk (hs.map fun h=>h.map fun h=>h.by p) fb ss i:=by
 refine⟨by rw[q1c];exact h.1,fun u g hg=>?_⟩
 rw[List.getElem?_map]at hg
 cases hu:hs[u]? with
 |none=>rw[hu]at hg;cases hg
 |some o=>
  rw[hu]at hg
  cases o with
  |none=>cases hg
  |some g0=>cases hg;rw[GS.by_f,hp];exact h.2 u g0 hu
theorem LD.by_f{α β:Type}(d:LD α)(p:β→α)(fb:β):(d.by p).i=d.i∧(d.by p).sk=d.sk∧(d.by p).g=d.g∧(d.by p).sz=d.sz∧(d.by p).p fb=d.p (p fb)∧(d.by p).v fb=d.v (p fb):=by obtain⟨a,b,c,e,f,g⟩:=d;exact⟨rfl,rfl,rfl,rfl,rfl,rfl⟩
theorem KH{α β:Type}{all:List Oper}{M:List Nat}{ld:List (LD α)}{fr:α}{es:Nat→qa}{ss:Nat→S}{i:Nat}(h:LdOk P all M ld fr es ss i){p:β→α}{fb:β}(hp:p fb=fr):LdOk P all M (ld.map fun h=>h.by p) fb es ss i:=by
 intro d hd
 obtain⟨d0,h0,rfl⟩:=List.mem_map.1 hd
 obtain⟨e1,e2,e3,e4,e5,e6⟩:=LD.by_f d0 p fb
 rw[e1,e2,e3,e4,e5,e6,hp]
 exact h d0 h0
theorem Jp{α:Type}{hs:List (Option (GS α))}{fr:α}{ss:Nat→S}{i:Nat}(h:HsOk hs fr ss i): ∀{us:List Nat}{z:ZL α},zGet hs us=some z→z.f fr=us.map fun u=>(ss u).nx
 |[],z,hz=>by cases hz;rfl
 |u::us,z,hz=>by
  unfold zGet at hz
  split at hz
  ·rename_i g l h1 h2
   cases hz
   show(g fr).nx::l fr=_
   have e1:g fr=ss u:=h.2 u ⟨g⟩ (EO h1)
   have e2:l fr=_:=Jp h h2
   rw[e1,e2];rfl
  ·cases hz
def ext{β:Type}(f:Nat→β)(i:Nat)(b:β):Nat→β:=fun j=>if j≤i then f j else b
theorem za{β:Type}{f:Nat→β}{i j:Nat}{b:β}(h:j≤i):ext f i b j=f j:=by unfold ext;rw[if_pos h]
theorem QQ{β:Type}{f:Nat→β}{i:Nat}{b:β}:ext f i b (i+1)=b:=by unfold ext;rw[if_neg (by omega)]
theorem Z6{all:List Oper}{M:List Nat}{i u:Nat}(h:u∈unz P all M i):u<i:=by
 unfold unz at h
 cases hb:Nat.ble (cls P (qE all i).op) 1 with
 |true=>rw[hb]at h;simp at h
 |false=>rw[hb]at h;exact List.mem_range.1 (q1k.1 h).1
theorem Gc{all:List Oper}{M:List Nat}{ss ss':Nat→S}{i:Nat}(h: ∀j,j<i→ss' j=ss j):zOf P ss' all M i=zOf P ss all M i:=by
 unfold zOf
 exact List.map_congr_left fun u hu=>by rw[h u (Z6 hu)]
theorem R9{α:Type}{hs:List (Option (GS α))}{fr:α}{ss:Nat→S}{i:Nat}{s1:S}{hs2:List (Option (GS α))}(h:HsOk hs fr ss i)(h2:hs2=hs++[none]∨ ∃g:GS α,hs2=hs++[some g]∧g.f fr=ss i):HsOk hs2 fr (ext ss i s1) (i+1):=by
 have key: ∀o:Option (GS α),(∀g,o=some g→g.f fr=ss i)→HsOk (hs++[o]) fr (ext ss i s1) (i+1):=by
  intro o ho
  refine⟨by rw[q19,h.1];rfl,fun u g hg=>?_⟩
  rcases q1K u i with hu|hu
  ·rw[List.getElem?_append_left (by rw[h.1];exact hu)]at hg
   rw[za (by omega)];exact h.2 u g hg
  ·rw[List.getElem?_append_right (by rw[h.1];exact hu),h.1]at hg
   by_cases e:u=i
   ·subst e
    simp at hg
    rw[za (q1G _)];exact ho g hg
   ·have:u-i=(u-i-1)+1:=by omega
    rw[this]at hg;simp at hg
 rcases h2 with rfl|⟨g,rfl,hg⟩
 ·exact key none fun g hg=>by cases hg
 ·exact key (some g) fun g' hg'=>by cases hg';exact hg
theorem ER{α:Type}{all:List Oper}{M:List Nat}{ld:List (LD α)}{fr:α}{es:Nat→qa}{ss:Nat→S}{i:Nat}{e1:qa}{s1:S}(h:LdOk P all M ld fr es ss i):LdOk P all M ld fr (ext es i e1) (ext ss i s1) (i+1):=by
 intro d hd
 obtain⟨h1,t,x,h2,h3,h4,h5⟩:=h d hd
 refine⟨by omega,t,x,h2,h3,h4,?_⟩
 rw[za (by omega),za (by omega),Gc (fun j hj=>za (by omega))]
 exact h5
def ZF(P:Program)(all:List Oper)(M:List Nat)(es:Nat→qa)(ss:Nat→S):Prop:=
 ∀j u,(j,u)∈ldP P all M→ ∀t x,(qE all j).op= .load t x→jk all (es j) (qE all j).guard=some true→ ∃w,w≠ .und∧
  (jb P (rmK (ss j).m (zOf P ss all M j)) t (qe (es j) x)).res=w∧(jb P (ss u).m t (qe (es j) x)).res=w∧(jb P (ss (u+1)).m t (qe (es j) x)).res=w
end
end
noncomputable section
theorem FR{α:Type}{a b:N16 α}(h: ∀d,a.get d=b.get d):a=b:=by
 have h0:=h .d0;have h1:=h .d1;have h2:=h .d2;have h3:=h .d3;have h4:=h .d4;have h5:=h .d5;have h6:=h .d6;have h7:=h .d7
 have h8:=h .d8;have h9:=h .d9;have h10:=h .d10;have h11:=h .d11;have h12:=h .d12;have h13:=h .d13;have h14:=h .d14;have h15:=h .d15
 cases a;cases b
 simp only[N16.get]at*
 simp_all
theorem Y3{α:Type}{a b:M4 α}(h: ∀k,mget a k=mget b k):a=b:=
 FR fun w=>FR fun x=>FR fun y=>FR fun z=>h ⟨w,x,y,z⟩
theorem q0v(m:qV)(z:List Key):reK m (rmK m z) z=m:=by
 refine Y3 fun k=>?_
 rw[AE,wz]
 by_cases h:k∈z
 ·cases hk:mget m k with
  |none=>simp[h]
  |some b=>simp[h]
 ·simp[h]
section
variable {v2:V} {s2:S} {γ:Type} {P:Program} {pr:vH} {rg:RG γ} {loc:Nat} {c:γ} {rc:FuncId→List V→S→RO}
theorem M1{g:Bool}{sz:Nat}{m:qV}{p:V}{K:V→RO}{t:TypeId}(ht:qA P t=some (g,sz))(hs:g=false→sz=1)(h:ze g sz m p K= .ok v2 s2): ∃u ks,u≠ .und∧K u= .ok v2 s2∧jb P m t p= .val u ks:=by
 obtain⟨u,ks,h1,h2,h3⟩:=FL (P:=P) (part:=fun v' o=>wC g sz v' o K) ht (fun v' o ks h=>Mt ks hs h) h
 exact⟨u,ks,h1,h2,h3⟩
theorem GF{α:Type}{hs:List (Option (GS α))}{fr:α}{ss ss':Nat→S}{n:Nat}(h:HsOk hs fr ss n)(he: ∀j,j<n→ss' j=ss j):HsOk hs fr ss' n:=by
 refine⟨h.1,fun u g hg=>?_⟩
 have hu:u<n:=by
  rw[←h.1]
  exact(List.getElem?_eq_some_iff.1 hg).1
 rw[he u hu];exact h.2 u g hg
theorem Oh{α:Type}{all:List Oper}{M:List Nat}{ld:List (LD α)}{fr:α}{es:Nat→qa}{ss:Nat→S}{i:Nat}{d:LD α}(h:LdOk P all M ld fr es ss (i+1))(hd:d.i<i+1∧ ∃t x,(qE all d.i).op= .load t x∧qA P t=some (d.g,d.sz)∧(d.g=false→d.sz=1)∧
  ((d.sk=true∧jk all (es d.i) (qE all d.i).guard=some false)∨(d.sk=false∧d.p fr=qe (es d.i) x∧d.v fr≠ .und∧(jb P (rmK (ss d.i).m (zOf P ss all M d.i)) t (qe (es d.i) x)).res=d.v fr))):
  LdOk P all M (d::ld) fr es ss (i+1):=by
 intro d' hd'
 rcases q1h.1 hd' with rfl|hd'
 ·exact hd
 ·exact h d' hd'
theorem Sg{all:List Oper}{o:Oper}{e:qa}{s:S}{e1:qa}{s1:S}(h:StepR rc P all o e s e1 s1):CG rc P all [] o e s e1 s1:=by
 rcases h with h|⟨h1,v,_,h2,h3⟩
 ·exact .inl h
 ·exact .inr ⟨h1,v,s1,h2,h3,rfl⟩
def Hb(rc:FuncId→List V→S→RO)(P:Program)(all:List Oper)(M:List Nat)(loc:Nat)(i:Nat)(rest:Dr γ)(c:γ)(es:Nat→qa)(ss:Nat→S)(v2:V)(s2:S):Prop:=
 ∃e1 s1,∃(β:Type)(mβ:Mp β)(Dβ:Nat)(hsβ:List (Option (GS β)))(ldβ:List (LD β))(fb:β)(eb:qa),
  CG rc P all (zOf P ss all M i) (qE all i) (es i) (ss i) e1 s1∧Ah (es i) e1∧(∀t,(qE all i).dst=some t→slot e1 t≠ .und)∧Inv loc Dβ mβ fb eb e1∧HsOk hsβ fb ss (i+1)∧
  LdOk P all M ldβ fb (ext es i e1) (ext ss i s1) (i+1)∧(rest β mβ Dβ hsβ ldβ).f c fb eb s1= .ok v2 s2
theorem Ge {all : List Oper} {M : List Nat} {i : Nat} {rest : Dr γ} {α : Type} {m1 : Mp α} {D : Nat} {hs1 : List (Option (GS α))} {ld1 : List (LD α)} {fr : α} {e' : qa} {es : Nat → qa} {ss : Nat → S}
  (hr : RcLe pr (rg.f c) rc) (hd : ∀ t, (qE all i).dst = some t → t < 256) (hi : Inv loc D m1 fr e' (es i)) (hh : HsOk hs1 fr ss (i + 1)) (hl : LdOk P all M ld1 fr es ss i)
  (h : (Ax P pr rg loc all M i (qE all i) rest m1 D hs1 ld1).f c fr e' (ss i) = .ok v2 s2) : Hb rc P all M loc i rest c es ss v2 s2 := by
 have plain : unz P all M i = [] → (DF P pr rg loc D m1 (fun β pr mβ Dβ => rest β mβ Dβ (hs1.map fun h => h.map fun h => h.by pr) (ld1.map fun h => h.by pr)) all (qE all i)).f c fr e' (ss i) = .ok v2 s2 → Hb rc P all M loc i rest c es ss v2 s2 := by
  intro hz h
  obtain ⟨e1, s1, h1, β, p, mb, Db, fb, eb, hp, h2, h3⟩ := Lo hr hd hi h
  obtain ⟨k1, k2⟩ := h1.keeps hd
  refine ⟨e1, s1, β, mb, Db, _, _, fb, eb, ?_, k1, k2, h2, KD hh hp, ?_, h3⟩
  ·have : zOf P ss all M i = [] := by unfold zOf; rw [hz]; rfl
   rw [this]; exact Sg h1
  ·exact KH (ER hl) hp
 have skip : ∀ {ld2 : List (LD α)} {e1' : qa}, jk all (es i) (qE all i).guard = some false → Inv loc (skD D (qE all i).dst) (skM m1 (qE all i).dst) fr e1' (jm (es i) (qE all i).dst (.tu [])) →
   LdOk P all M ld2 fr (ext es i (jm (es i) (qE all i).dst (.tu []))) (ext ss i (ss i)) (i + 1) → (rest α (skM m1 (qE all i).dst) (skD D (qE all i).dst) hs1 ld2).f c fr e1' (ss i) = .ok v2 s2 → Hb rc P all M loc i rest c es ss v2 s2 := by
  intro ld2 e1' hg hi2 hl2 h
  have st : StepR rc P all (qE all i) (es i) (ss i) (jm (es i) (qE all i).dst (.tu [])) (ss i) := .inl ⟨hg, rfl, rfl⟩
  obtain ⟨k1, k2⟩ := st.keeps hd
  exact ⟨_, ss i, α, _, _, hs1, ld2, fr, e1', .inl ⟨hg, rfl, rfl⟩, k1, k2, hi2, hh, hl2, h⟩
 unfold Ax at h
 split at h
 ·rename_i t x hop
  have special : (match gv loc D m1 x, qA P t, zGet hs1 (unz P all M i) with
    | some ⟨g⟩, some (gg, sz), some ⟨zg⟩ => bif gg || Nat.beq sz 1 then gdC loc D m1 all (qE all i)
     (match finV (γ := γ) (α := Fm (Fm α)) loc D (upM (upM m1)) (fun β (pr : β → Fm (Fm α)) mβ Dβ => rest β mβ Dβ (hs1.map fun (h : Option (GS α)) => h.map fun (h : GS α) => h.by fun (x : β) => (pr x).r.r) (⟨i, false, gg, sz, fun fr => (pr fr).r.v, fun fr => (pr fr).v⟩ :: ld1.map fun (h : LD α) => h.by fun (x : β) => (pr x).r.r)) (qE all i).dst ⟨fun fr _ _ K => K fr.v⟩ with
      | ⟨k⟩ => ⟨fun c fr e s => qF (g fr e) fun p => ze gg sz (rmK s.m (zg fr)) p fun v => k c ⟨v, ⟨p, fr⟩⟩ e s⟩)
     (rest α (skM m1 (qE all i).dst) (skD D (qE all i).dst) hs1 (⟨i, true, gg, sz, fun _ => .und, fun _ => .und⟩ :: ld1)) else badC
    | _, _, _ => badC).f c fr e' (ss i) = .ok v2 s2 → Hb rc P all M loc i rest c es ss v2 s2 := by
   intro h
   split at h
   ·rename_i g gg sz zg hg hsh hzg
    cases hb : (gg || Nat.beq sz 1) with
    | false => rw [hb, cond_false] at h; cases h
    | true =>
     rw [hb, cond_true] at h
     have hsz : gg = false → sz = 1 := fun h => by rw [h, Bool.false_or] at hb; exact q1B hb
     rcases LG hd hi h with ⟨hgd, h2⟩ | ⟨hgd, e1', h2, h3⟩
     ·generalize hk : finV (γ := γ) (α := Fm (Fm α)) loc D (upM (upM m1)) (fun β (pr : β → Fm (Fm α)) mβ Dβ => rest β mβ Dβ (hs1.map fun (h : Option (GS α)) => h.map fun (h : GS α) => h.by fun (x : β) => (pr x).r.r) (⟨i, false, gg, sz, fun fr => (pr fr).r.v, fun fr => (pr fr).v⟩ :: ld1.map fun (h : LD α) => h.by fun (x : β) => (pr x).r.r)) (qE all i).dst ⟨fun fr _ _ K => K fr.v⟩ = q at h2
      obtain ⟨k⟩ := q
      obtain ⟨hp, h2⟩ := AU (show qF (g fr e') _ = .ok v2 s2 from h2)
      have hge : g fr e' = qe (es i) x := qU hg hi
      have hze : zg fr = zOf P ss all M i := Jp hh hzg
      rw [hge] at h2 hp
      rw [hze] at h2
      obtain ⟨u, ks, hu, h3, h4⟩ := M1 hsh hsz h2
      have h3 : (finV (γ := γ) (α := Fm (Fm α)) loc D (upM (upM m1)) (fun β (pr : β → Fm (Fm α)) mβ Dβ => rest β mβ Dβ (hs1.map fun (h : Option (GS α)) => h.map fun (h : GS α) => h.by fun (x : β) => (pr x).r.r) (⟨i, false, gg, sz, fun fr => (pr fr).r.v, fun fr => (pr fr).v⟩ :: ld1.map fun (h : LD α) => h.by fun (x : β) => (pr x).r.r)) (qE all i).dst ⟨fun fr _ _ K => K fr.v⟩).f c ⟨u, ⟨qe (es i) x, fr⟩⟩ e' (ss i) = .ok v2 s2 := by rw [hk]; exact h3
      obtain ⟨K, h5, h6⟩ := NY hd (Re u (Re (qe (es i) x) hi)) h3
      obtain ⟨β, p, mb, Db, fb, eb, hpf, h7, h8⟩ := h6 u hu h5
      have st : CG rc P all (zOf P ss all M i) (qE all i) (es i) (ss i) (jm (es i) (qE all i).dst u) (ss i) := by
       refine .inr ⟨hgd, u, ⟨rmK (ss i).m (zOf P ss all M i), (ss i).nx, (ss i).dn, (ss i).sc⟩, ?_, rfl, ?_⟩
       ·rw [hop]
        show ap _ (jb P _ t _) = _
        rw [h4]; rfl
       ·rw [q0v]
      refine ⟨_, ss i, β, mb, Db, _, _, fb, eb, st, EP hd hu, fun t' ht' => ?_, h7, ?_, ?_, h8⟩
      ·rw [ht', je (hd t' ht'), if_pos rfl]; exact hu
      ·exact KD (p := fun x => (p x).r.r) hh (by show (p fb).r.r = fr; rw [hpf])
      ·refine Oh (KH (p := fun x => (p x).r.r) (ER hl) (by show (p fb).r.r = fr; rw [hpf])) ⟨by show i < i + 1; omega, t, x, hop, hsh, hsz, .inr ⟨rfl, ?_, ?_, ?_⟩⟩
       ·show (p fb).r.v = qe (ext es i _ i) x
        rw [hpf, za (q1G _)]
       ·show (p fb).v ≠ .und
        rw [hpf]; exact hu
       ·show (jb P (rmK (ext ss i _ i).m (zOf P (ext ss i _) all M i)) t (qe (ext es i _ i) x)).res = (p fb).v
        rw [za (q1G _), za (q1G _), Gc (fun j hj => za (by omega)), h4, hpf]; rfl
     ·refine skip hgd h2 (Oh (ER hl) ⟨by show i < i + 1; omega, t, x, hop, hsh, hsz, .inl ⟨rfl, ?_⟩⟩) h3
      show jk all (ext es i _ i) _ = _
      rw [za (q1G _)]; exact hgd
   ·cases h
  cases hz : unz P all M i with
  | nil =>
   cases hany : (ldP P all M).any (fun q => Nat.beq q.1 i) with
   | false => rw [hz, hany] at h; exact plain hz h
   | true => rw [hz, hany] at h; rw [hz] at special; exact special h
  | cons u us => rw [hz] at h special; exact special h
 ·cases hz : unz P all M i with
  | nil => rw [hz] at h; exact plain hz h
  | cons u us =>
   rw [hz] at h
   simp only at h
   rw [← hz] at h
   split at h
   ·rename_i hop zg hcomp hzg
    rcases LG hd hi h with ⟨hgd, h2⟩ | ⟨hgd, e1', h2, h3⟩
    ·obtain ⟨K, h3, h4⟩ := NX hd hi h2
     have hze : zg fr = zOf P ss all M i := Jp hh hzg
     have h3 : hop c fr e' ⟨rmK (ss i).m (zg fr), (ss i).nx, (ss i).dn, (ss i).sc⟩ (fun v s2 => K v (UK (ss i) (zg fr) s2)) = .ok v2 s2 := h3
     obtain ⟨v, s1, hv, h5, h6⟩ := Lq hr hcomp hi h3
     obtain ⟨β, p, mb, Db, fb, eb, hpf, h7, h8⟩ := h4 v _ hv h6
     rw [hze] at h5 h8
     refine ⟨_, _, β, mb, Db, _, _, fb, eb, .inr ⟨hgd, v, s1, h5, rfl, rfl⟩, EP hd hv, fun t' ht' => ?_, h7, KD hh hpf, KH (ER hl) hpf, h8⟩
     rw [ht', je (hd t' ht'), if_pos rfl]; exact hv
    ·exact skip hgd h2 (ER hl) h3
   ·cases h
theorem Ph{all:List Oper}{M:List Nat}{i:Nat}{rest:Dr γ}{α:Type}{m:Mp α}{D:Nat}{hs:List (Option (GS α))}{ld:List (LD α)}{fr:α}{e':qa}{es:Nat→qa}{ss:Nat→S}
  (hr:RcLe pr (rg.f c) rc)(hd: ∀t,(qE all i).dst=some t→t<256)(hi:Inv loc D m fr e' (es i))(hh:HsOk hs fr ss i)(hl:LdOk P all M ld fr es ss i)
  (h:(Fy P pr rg loc all M i (qE all i) rest m D hs ld).f c fr e' (ss i)= .ok v2 s2):Hb rc P all M loc i rest c es ss v2 s2:=by
 unfold Fy at h
 have cg: ∀{s1:S}{j:Nat},j<i+1→ss j=ext ss i s1 j:=fun hj=>(za (by omega)).symm
 cases hn:Uy P all M i with
 |true=>
  rw[hn,cond_true]at h
  generalize hk:Ax P pr rg loc all M i (qE all i) rest (m.map fun p=>(p.1,p.2.us)) D ((hs.map fun h=>h.map fun h=>h.by fun f=>f.r)++[some ⟨fun fr=>fr.s⟩]) (ld.map fun h=>h.by fun f=>f.r)=q at h
  obtain⟨f⟩:=q
  have h:(Ax P pr rg loc all M i (qE all i) rest (m.map fun p=>(p.1,p.2.us)) D ((hs.map fun h=>h.map fun h=>h.by fun f=>f.r)++[some ⟨fun fr=>fr.s⟩]) (ld.map fun h=>h.by fun f=>f.r)).f c (⟨ss i,fr⟩:Fs α) e' (ss i)= .ok v2 s2:=by rw[hk];exact h
  refine Ge hr hd (XQ (ss i) hi) ?_ (KH hl rfl) h
  exact GF (R9 (s1:=ss i) (KD hh (p:=fun f:Fs α=>f.r) (fb:=⟨ss i,fr⟩) rfl) (.inr ⟨⟨fun fr=>fr.s⟩,rfl,rfl⟩)) fun j hj=>cg hj
 |false=>
  rw[hn,cond_false]at h
  exact Ge hr hd hi (GF (R9 (s1:=ss i) hh (.inl rfl)) fun j hj=>cg hj) hl h
end
end
noncomputable section
section
variable {v2:V} {s2:S} {γ:Type} {P:Program} {pr:vH} {rg:RG γ} {loc:Nat} {c:γ} {rc:FuncId→List V→S→RO}
theorem RE{all:List Oper}{i:Nat}{o:Oper}{r:List Oper}(h:o::r=all.drop i):qE all i=o∧r=all.drop (i+1)∧i<all.length:=by
 have h1:all[i]?=some o:=by
  have:(all.drop i)[0]?=some o:=by rw[←h];rfl
  rw[q14]at this;simpa using this
 refine⟨by unfold qE;rw[q11,h1];rfl,?_,(List.getElem?_eq_some_iff.1 h1).1⟩
 have:(all.drop i).drop 1=all.drop (i+1):=by rw[q0W]
 rw[←this,←h];rfl
theorem JB{nrm:CK γ}{all:List Oper}{M:List Nat}(hr:RcLe pr (rg.f c) rc)(hd: ∀o∈all,∀t,o.dst=some t→t<256):
  ∀(l:List Oper)(i:Nat),l=all.drop i→i≤all.length→ ∀{α:Type}{m:Mp α}{D:Nat}{hs:List (Option (GS α))}{ld:List (LD α)}{fr:α}{e':qa}(es:Nat→qa)(ss:Nat→S),
  Inv loc D m fr e' (es i)→HsOk hs fr ss i→LdOk P all M ld fr es ss i→(CZ P pr rg loc nrm all M l i α m D hs ld).f c fr e' (ss i)= .ok v2 s2→
  ∃es' ss' e1',(∀j,j≤i→es' j=es j∧ss' j=ss j)∧(∀t,Nat.testBit loc t=false→slot e1' t=slot (es' all.length) t)∧Ah (es i) (es' all.length)∧(∀o∈l,∀t,o.dst=some t→slot (es' all.length) t≠ .und)∧
   (∀j,i≤j→j<all.length→CG rc P all (zOf P ss' all M j) (qE all j) (es' j) (ss' j) (es' (j+1)) (ss' (j+1)))∧ZF P all M es' ss'∧nrm.f c e1' (ss' all.length)= .ok v2 s2
 |[],i,hl,hile,α,m,D,hs,ld,fr,e',es,ss,hi,hh,hld,h=>by
  have hin:i=all.length:=by
   have:=congrArg List.length hl
   simp at this;omega
  subst hin
  have h:(match chkL all.length hs ld (ldP P all M),nrm with|some ⟨b⟩,⟨f⟩=>(⟨fun c fr e s=>b fr s (f c e s)⟩:CF γ α)|none,_=>badC).f c fr e' (ss all.length)= .ok v2 s2:=h
  split at h
  ·rename_i b _ hb f
   obtain⟨h1,h2⟩:=Fx (P:=P) hb (show b fr (ss all.length) _= .ok v2 s2 from h)
   refine⟨es,ss,e',fun j _=>⟨rfl,rfl⟩,hi.ag,fun t h=>h,fun o ho=>(by simp at ho),fun j h1 h2=>by omega,fun j u hju t x hop hg=>?_,h1⟩
   obtain⟨d,g,h3,h4,h5⟩:=h2 (j,u) hju
   obtain⟨hmem,rfl⟩:=LB h3
   obtain⟨_,t',x',q1,q2,q3,q4⟩:=hld d hmem
   rw[hop]at q1
   injection q1 with e1 e2
   subst e1;subst e2
   rcases q4 with⟨k1,k2⟩|⟨k1,k2,k3,k4⟩
   ·rw[k2]at hg;cases hg
   ·rcases h5 with h5|⟨h5,h6⟩
    ·rw[k1]at h5;cases h5
    ·refine⟨d.v fr,k3,k4,?_,?_⟩
     ·have:=h5 q3 q3 t q2
      rwa [hh.2 u g h4,k2]at this
     ·rcases h6 with⟨e3,h6⟩|⟨g',h6,h7⟩
      ·have:=h6 q3 q3 t q2
       simp only at e3
       rwa [←e3,k2]at this
      ·have:=h7 q3 q3 t q2
       rwa [hh.2 _ g' h6,k2]at this
  ·cases h
 |o::r,i,hl,hile,α,m,D,hs,ld,fr,e',es,ss,hi,hh,hld,h=>by
  obtain⟨ho,hr2,hlt⟩:=RE hl
  have hmem:qE all i∈all:=by
   have:o∈all:=List.mem_of_mem_drop (i:=i) (by rw[←hl];simp)
   rw[ho];exact this
  have h:(Fy P pr rg loc all M i o (CZ P pr rg loc nrm all M r (i+1)) m D hs ld).f c fr e' (ss i)= .ok v2 s2:=h
  rw[←ho]at h
  obtain⟨e1,s1,β,mb,Db,hsb,ldb,fb,eb,h1,h2,h3,h4,h5,h6,h7⟩:=Ph hr (hd _ hmem) hi hh hld h
  have x1:ext es i e1 (i+1)=e1:=QQ
  have x2:ext ss i s1 (i+1)=s1:=QQ
  obtain⟨es',ss',e1',g1,g2,g3,g4,g5,g6,g7⟩:=JB (nrm:=nrm) hr hd r (i+1) hr2 hlt (es:=ext es i e1) (ss:=ext ss i s1) (by rw[x1];exact h4) (GF h5 fun j hj=>za (by omega)) h6 (by rw[x2];exact h7)
  rw[x1]at g3
  have y1: ∀j,j≤i→es' j=es j∧ss' j=ss j:=fun j hj=>⟨(g1 j (by omega)).1.trans (za hj),(g1 j (by omega)).2.trans (za hj)⟩
  refine⟨es',ss',e1',y1,g2,fun t ht=>g3 t (h2 t ht),fun o' ho' t ht=>?_,fun j hj1 hj2=>?_,g6,g7⟩
  ·rcases q1h.1 ho' with rfl|ho'
   ·exact g3 t (h3 t (by rw[ho];exact ht))
   ·exact g4 o' ho' t ht
  ·by_cases hj:j=i
   ·subst hj
    rw[(y1 j (q1G _)).1,(y1 j (q1G _)).2,(g1 (j+1) (q1G _)).1,(g1 (j+1) (q1G _)).2,x1,x2,Gc (fun k hk=>(y1 k (by omega)).2)]
    exact h1
   ·exact g5 j (by omega) hj2
theorem Sf{all:List Oper}{z:List Key}{o:Oper}{e:qa}{s:S}{e1 e2:qa}{s1 s2:S}(h1:CG rc P all z o e s e1 s1)(h2:CG rc P all z o e s e2 s2):e1=e2∧s1=s2:=by
 rcases h1 with⟨g1,rfl,rfl⟩|⟨g1,v,t,r1,rfl,rfl⟩<;>rcases h2 with⟨g2,rfl,rfl⟩|⟨g2,v2,t2,r2,rfl,rfl⟩
 ·exact⟨rfl,rfl⟩
 ·rw[g1]at g2;cases g2
 ·rw[g1]at g2;cases g2
 ·rw[r1]at r2;cases r2;exact⟨rfl,rfl⟩
theorem Nt{all:List Oper}{e e1 e2:qa}{s s1 s2:S}{es es2:Nat→qa}{ss ss2:Nat→S}(h1:DrawOk rc P all e s e1 s1 es ss)(h2:DrawOk rc P all e s e2 s2 es2 ss2):e1=e2∧s1=s2:=by
 have key: ∀i,i≤all.length→ ∀j,j≤i→es j=es2 j∧ss j=ss2 j:=by
  intro i
  induction i with
  |zero=>
   intro _ j hj
   have:j=0:=by omega
   subst this
   exact⟨h1.e0.trans h2.e0.symm,h1.s0.trans h2.s0.symm⟩
  |succ i ih=>
   intro hi j hj
   have ih:=ih (by omega)
   by_cases h:j=i+1
   ·subst h
    have a:=h1.step i (by omega)
    have b:=h2.step i (by omega)
    rw[(ih i (q1G _)).1,(ih i (q1G _)).2,Gc (ss:=ss2) (fun k hk=>(ih k (by omega)).2)]at a
    exact Sf a b
   ·exact ih j (by omega)
 have:=key all.length (q1G _) all.length (q1G _)
 exact⟨h1.en.symm.trans (this.1.trans h2.en),h1.sn.symm.trans (this.2.trans h2.sn)⟩
theorem T5{nrm:CK γ}{ops:List Oper}{D:Nat}{e' e:qa}{s:S}(hr:RcLe pr (rg.f c) rc)(hd: ∀o∈ops,∀t,o.dst=some t→t<256)(hst:Ek P ops (masks 0 ops [])=true)
  (hag: ∀t,Nat.testBit loc t=false→slot e' t=slot e t)(hdf: ∀t,Nat.testBit D t=true→slot e t≠ .und)(h:(Pg P pr rg loc nrm D ops).f c e' s= .ok v2 s2):
  ∃e1 s1 e1',runD rc P ops e s= .ok .nrm e1 s1∧(∀t,Nat.testBit loc t=false→slot e1' t=slot e1 t)∧Ah e e1∧(∀o∈ops,∀t,o.dst=some t→slot e1 t≠ .und)∧nrm.f c e1' s1= .ok v2 s2:=by
 have h:(match CZ P pr rg loc nrm ops (masks 0 ops []) ops 0 Unit [] D [] []with|⟨f⟩=>(⟨fun c e s=>tramp (f c () e s)⟩:CK γ)).f c e' s= .ok v2 s2:=h
 generalize hk:CZ P pr rg loc nrm ops (masks 0 ops []) ops 0 Unit [] D [] []=q at h
 obtain⟨f⟩:=q
 have h:(CZ P pr rg loc nrm ops (masks 0 ops []) ops 0 Unit [] D [] []).f c () e' s= .ok v2 s2:=by rw[hk];exact h
 obtain⟨es,ss,e1',g1,g2,g3,g4,g5,g6,g7⟩:=JB hr hd ops 0 rfl (q23 _) (fun _=>e) (fun _=>s) (FD hag hdf) ⟨rfl,fun u g h=>by simp at h⟩ (fun d hd=>by simp at hd) h
 have hD:DrawOk rc P ops e s (es ops.length) (ss ops.length) es ss:=⟨(g1 0 (q1G _)).1,(g1 0 (q1G _)).2,rfl,rfl,hst,fun i hi=>g5 i (q23 _) hi,g6⟩
 have hex: ∃p:qa×S,∃es ss,DrawOk rc P ops e s p.1 p.2 es ss:=⟨(es ops.length,ss ops.length),es,ss,hD⟩
 refine⟨es ops.length,ss ops.length,e1',?_,g2,g3,g4,g7⟩
 obtain⟨es0,ss0,hch⟩:=Classical.choose_spec hex
 have hu:=Nt hch hD
 unfold runD
 rw[dif_pos hex,hu.1,hu.2]
theorem T7{nrm:CK γ}{ops:List Oper}{D:Nat}{e' e:qa}{s:S}(hr:RcLe pr (rg.f c) rc)(hd: ∀o∈ops,∀t,o.dst=some t→t<256)
  (hag: ∀t,Nat.testBit loc t=false→slot e' t=slot e t)(hdf: ∀t,Nat.testBit D t=true→slot e t≠ .und)(h:(Pi P pr rg loc nrm D ops).f c e' s= .ok v2 s2):
  ∃e1 s1 e1',wO rc P ops ops e s= .ok .nrm e1 s1∧(∀t,Nat.testBit loc t=false→slot e1' t=slot e1 t)∧Ah e e1∧(∀o∈ops,∀t,o.dst=some t→slot e1 t≠ .und)∧nrm.f c e1' s1= .ok v2 s2:=by
 have h:(match Bx P pr rg loc nrm ops ops Unit [] D with|⟨f⟩=>(⟨fun c e s=>tramp (f c () e s)⟩:CK γ)).f c e' s= .ok v2 s2:=h
 generalize hk:Bx P pr rg loc nrm ops ops Unit [] D=q at h
 obtain⟨f⟩:=q
 have h:(Bx P pr rg loc nrm ops ops Unit [] D).f c () e' s= .ok v2 s2:=by rw[hk];exact h
 exact Ht hr ops hd (FD hag hdf) h
end
end
noncomputable section
def zl(P:Program):Code→Bool
 | .region _ ops dr=>!dr||Ek P ops.toList (masks 0 ops.toList [])
 | .seq a b=>zl P a&&zl P b
 | .cond _ a b=>zl P a&&zl P b
 | .block _ a=>zl P a
 | .loop a=>zl P a
 |_=>true
theorem Td{n:Nat}{o:Oper}(h:z9 n o=true): ∀t,o.dst=some t→t<256:=fun t ht=>by
 unfold z9 at h
 rw[ht]at h
 simp only[q0P]at h
 simpa using h.2
theorem LF{t:Nat}: ∀{l:List Oper}{D:Nat},Nat.testBit (l.foldl (fun D o=>skD D o.dst) D) t=true→Nat.testBit D t=true∨ ∃o∈l,o.dst=some t
 |[],D,h=> .inl h
 |o::l,D,h=>by
  rcases LF (l:=l) h with h|⟨o',h1,h2⟩
  ·have h:Nat.testBit (skD D o.dst) t=true:=h
   cases ho:o.dst with
   |none=>rw[ho]at h;exact .inl h
   |some d=>
    rw[ho]at h
    have h:Nat.testBit (D|||2^d) t=true:=h
    rw[Nat.testBit_or,Nat.testBit_two_pow,Bool.or_eq_true]at h
    rcases h with h|h
    ·exact .inl h
    ·exact .inr ⟨o,by simp,by rw[ho,of_decide_eq_true h]⟩
  ·exact .inr ⟨o',by simp[h1],h2⟩
def nxt{γ:Type}(nrm:CK γ)(ex:Exs γ)(ret:CK γ):X→CK γ
 | .nrm=>nrm
 | .ext i=>Bl i ex
 | .ret=>ret
theorem Hz{γ:Type}(i:Nat): ∀ex:Exs γ,Bl i (ex.map fun p=>(p.1,p.2.lift))=(Bl i ex).lift
 |[]=>rfl
 |p::r=>by
  show(bif Nat.beq p.1 i then p.2.lift else Bl i (r.map fun p=>(p.1,p.2.lift)))=CK.lift (bif Nat.beq p.1 i then p.2 else Bl i r)
  cases Nat.beq p.1 i with
  |true=>rfl
  |false=>exact Hz i r
theorem Rk{γ:Type}(x:CK γ)(ih:qa→S→RO)(c:γ)(e:qa)(s:S):x.lift.f ⟨ih,c⟩ e s=x.f c e s:=by obtain⟨f⟩:=x;rfl
theorem VT{γ:Type}(x:RG γ)(ih:qa→S→RO)(c:γ):x.lift.f ⟨ih,c⟩=x.f c:=by obtain⟨f⟩:=x;rfl
section
variable {v2:V} {s2:S} {P:Program} {pr:vH} {loc:Nat} {rc:FuncId→List V→S→RO}
def FdOk(P:Program)(pr:vH)(loc:Nat)(rc:FuncId→List V→S→RO)(v2:V)(s2:S)(cd:Code):Prop:=
 ∀(γ:Type)(rg:RG γ)(D:Nat)(nrm:CK γ)(ex:Exs γ)(ret:CK γ)(c:γ)(n:Nat)(e' e:qa)(s:S),RcLe pr (rg.f c) rc→jB n cd=true→zl P cd=true→
  (∀t,Nat.testBit loc t=false→slot e' t=slot e t)→(∀t,Nat.testBit D t=true→slot e t≠ .und)→((fden P pr loc cd).d γ rg D nrm ex ret).f c e' s= .ok v2 s2→
  ∃x e1 s1 e1',den rc P cd e s= .ok x e1 s1∧(∀t,Nat.testBit loc t=false→slot e1' t=slot e1 t)∧Ah e e1∧(x= .nrm→ ∀t,Nat.testBit ((fden P pr loc cd).o D) t=true→slot e1 t≠ .und)∧(nxt nrm ex ret x).f c e1' s1= .ok v2 s2
theorem Om{cd:Code}(hcd:FdOk P pr loc rc v2 s2 cd){γ:Type}{rg:RG γ}{D:Nat}{nrm:CK γ}{ex:Exs γ}{ret:CK γ}{c:γ}{n:Nat}(hr:RcLe pr (rg.f c) rc)(hk:jB n cd=true)(hst:zl P cd=true){f:LC γ→qa→S→RO}
  (hf:(fden P pr loc cd).d (LC γ) rg.lift D ⟨fun c e s=>tramp (c.ih e s)⟩ (ex.map fun p=>(p.1,p.2.lift)) ret.lift=⟨f⟩): ∀(N:Nat)(e' e:qa)(s:S),(∀t,Nat.testBit loc t=false→slot e' t=slot e t)→(∀t,Nat.testBit D t=true→slot e t≠ .und)→
  FM (fun ih e s=>f ⟨ih,c⟩ e s) N e' s= .ok v2 s2→
  ∃x e1 s1 e1',E0 (den rc P cd) N e s= .ok x e1 s1∧x≠ .nrm∧(∀t,Nat.testBit loc t=false→slot e1' t=slot e1 t)∧Ah e e1∧(nxt nrm ex ret x).f c e1' s1= .ok v2 s2
 |0,e',e,s,hag,hdf,h=>by cases h
 |N+1,e',e,s,hag,hdf,h=>by
  have h:f ⟨FM (fun ih e s=>f ⟨ih,c⟩ e s) N,c⟩ e' s= .ok v2 s2:=h
  obtain⟨x,e1,s1,e1',h1,h2,h3,h4,h5⟩:=hcd (LC γ) rg.lift D _ _ _ ⟨FM (fun ih e s=>f ⟨ih,c⟩ e s) N,c⟩ n e' e s (by rw[VT];exact hr) hk hst hag hdf (by rw[hf];exact h)
  have e0:E0 (den rc P cd) (N+1) e s=KN (E0 (den rc P cd) N) (den rc P cd e s):=rfl
  rw[e0,h1]
  cases x with
  |nrm=>
   obtain⟨x,e3,s3,e3',g1,g2,g3,g4,g5⟩:=Om hcd hr hk hst hf N e1' e1 s1 h2 (fun t ht=>h3 t (hdf t ht)) h5
   exact⟨x,e3,s3,e3',g1,g2,g3,fun t ht=>g4 t (h3 t ht),g5⟩
  |ext i=>
   refine⟨_,e1,s1,e1',rfl,by simp,h2,h3,?_⟩
   have h5:(Bl i (ex.map fun p=>(p.1,p.2.lift))).f _ e1' s1= .ok v2 s2:=h5
   rw[Hz,Rk]at h5;exact h5
  |ret=>
   refine⟨_,e1,s1,e1',rfl,by simp,h2,h3,?_⟩
   have h5:ret.lift.f _ e1' s1= .ok v2 s2:=h5
   rw[Rk]at h5;exact h5
theorem Az: ∀cd:Code,FdOk P pr loc rc v2 s2 cd
 | .skip=>fun γ rg D nrm ex ret c n e' e s hr hk hst hag hdf h=>⟨.nrm,e,s,e',rfl,hag,fun t h=>h,fun _=>hdf,h⟩
 | .region id ops dr=>fun γ rg D nrm ex ret c n e' e s hr hk hst hag hdf h=>by
  have hd: ∀o∈ops.toList,∀t,o.dst=some t→t<256:=fun o ho=>Td (List.all_eq_true.1 (show ops.toList.all (z9 n)=true from hk) o ho)
  have fin: ∀e1:qa,Ah e e1→(∀o∈ops.toList,∀t,o.dst=some t→slot e1 t≠ .und)→ ∀t,Nat.testBit (ops.toList.foldl (fun D o=>skD D o.dst) D) t=true→slot e1 t≠ .und:=fun e1 h1 h2 t ht=>by
   rcases LF ht with h|⟨o,h3,h4⟩
   ·exact h1 t (hdf t h)
   ·exact h2 o h3 t h4
  cases dr with
  |false=>
   have h:(Pi P pr rg loc nrm D ops.toList).f c e' s= .ok v2 s2:=h
   obtain⟨e1,s1,e1',h1,h2,h3,h4,h5⟩:=T7 hr hd hag hdf h
   exact⟨.nrm,e1,s1,e1',h1,h2,h3,fun _=>fin e1 h3 h4,h5⟩
  |true=>
   have h:(Pg P pr rg loc nrm D ops.toList).f c e' s= .ok v2 s2:=h
   have hst:Ek P ops.toList (masks 0 ops.toList [])=true:=hst
   obtain⟨e1,s1,e1',h1,h2,h3,h4,h5⟩:=T5 hr hd hst hag hdf h
   exact⟨.nrm,e1,s1,e1',h1,h2,h3,fun _=>fin e1 h3 h4,h5⟩
 | .seq a b=>fun γ rg D nrm ex ret c n e' e s hr hk hst hag hdf h=>by
  simp only[jB,q0P]at hk
  simp only[zl,q0P]at hst
  have h:((fden P pr loc a).d γ rg D ((fden P pr loc b).d γ rg ((fden P pr loc a).o D) nrm ex ret) ex ret).f c e' s= .ok v2 s2:=h
  obtain⟨x,e1,s1,e1',h1,h2,h3,h4,h5⟩:=Az a γ rg D _ ex ret c n e' e s hr hk.1 hst.1 hag hdf h
  have e0:den rc P (.seq a b) e s=KO (den rc P a e s) (den rc P b):=rfl
  rw[e0,h1]
  cases x with
  |nrm=>
   obtain⟨x,e3,s3,e3',g1,g2,g3,g4,g5⟩:=Az b γ rg _ nrm ex ret c n e1' e1 s1 hr hk.2 hst.2 h2 (h4 rfl) h5
   exact⟨x,e3,s3,e3',g1,g2,fun t ht=>g3 t (h3 t ht),g4,g5⟩
  |ext i=>exact⟨_,e1,s1,e1',rfl,h2,h3,fun h=>(by cases h),h5⟩
  |ret=>exact⟨_,e1,s1,e1',rfl,h2,h3,fun h=>(by cases h),h5⟩
 | .cond x a b=>fun γ rg D nrm ex ret c n e' e s hr hk hst hag hdf h=>by
  simp only[jB,q0P]at hk
  simp only[zl,q0P]at hst
  have h:(match gv (α:=Unit) loc D [] x,(fden P pr loc a).d γ rg D nrm ex ret,(fden P pr loc b).d γ rg D nrm ex ret with
   |some ⟨g⟩,⟨fa⟩,⟨fb⟩=>(⟨fun c e s=>qB (g () e) fun b=> @Bool.rec (fun _=>RO) (fb c e s) (fa c e s) b⟩:CK γ)
   |none,_,_=>badK).f c e' s= .ok v2 s2:=h
  split at h
  ·rename_i _ _ _ g fa fb hg hfa hfb
   obtain⟨t,h1,h2⟩:=PX (show qB (g () e') _= .ok v2 s2 from h)
   have hx:g () e'=qe e x:=qU hg (FD hag hdf)
   rw[hx]at h1
   have e0:den rc P (.cond x a b) e s=Kw (qe e x) (den rc P a) (den rc P b) e s:=rfl
   rw[e0,h1]
   cases t with
   |true=>
    obtain⟨x,e1,s1,e1',h1,h2,h3,h4,h5⟩:=Az a γ rg D nrm ex ret c n e' e s hr hk.1 hst.1 hag hdf (by rw[hfa];exact h2)
    exact⟨x,e1,s1,e1',h1,h2,h3,fun _ t ht=>h3 t (hdf t ht),h5⟩
   |false=>
    obtain⟨x,e1,s1,e1',h1,h2,h3,h4,h5⟩:=Az b γ rg D nrm ex ret c n e' e s hr hk.2 hst.2 hag hdf (by rw[hfb];exact h2)
    exact⟨x,e1,s1,e1',h1,h2,h3,fun _ t ht=>h3 t (hdf t ht),h5⟩
  ·cases h
 | .block id a=>fun γ rg D nrm ex ret c n e' e s hr hk hst hag hdf h=>by
  have hk:jB n a=true:=hk
  have hst:zl P a=true:=hst
  have h:((fden P pr loc a).d γ rg D nrm ((id,nrm)::ex) ret).f c e' s= .ok v2 s2:=h
  obtain⟨x,e1,s1,e1',h1,h2,h3,h4,h5⟩:=Az a γ rg D nrm _ ret c n e' e s hr hk hst hag hdf h
  have e0:den rc P (.block id a) e s=Hp id (den rc P a e s):=rfl
  rw[e0,h1]
  have hD: ∀t,Nat.testBit D t=true→slot e1 t≠ .und:=fun t ht=>h3 t (hdf t ht)
  cases x with
  |nrm=>exact⟨.nrm,e1,s1,e1',rfl,h2,h3,fun _=>hD,h5⟩
  |ret=>exact⟨.ret,e1,s1,e1',rfl,h2,h3,fun _=>hD,h5⟩
  |ext i=>
   have h5:(bif Nat.beq id i then nrm else Bl i ex).f c e1' s1= .ok v2 s2:=h5
   show∃x e2 s2' e1'_1,@Bool.rec (fun _=>R) (.ok (.ext i) e1 s1) (.ok .nrm e1 s1) (Nat.beq i id)= .ok x e2 s2'∧_
   cases hb:Nat.beq i id with
   |true=>
    have:=q1B hb
    subst this
    rw[hb]at h5
    exact⟨.nrm,e1,s1,e1',rfl,h2,h3,fun _=>hD,h5⟩
   |false=>
    have hb2:Nat.beq id i=false:=by
     cases h:Nat.beq id i with
     |false=>rfl
     |true=>rw[q1B h]at hb;simp at hb
    rw[hb2]at h5
    exact⟨.ext i,e1,s1,e1',rfl,h2,h3,fun _=>hD,h5⟩
 | .loop a=>fun γ rg D nrm ex ret c n e' e s hr hk hst hag hdf h=>by
  have hk:jB n a=true:=hk
  have hst:zl P a=true:=hst
  have h:(match(fden P pr loc a).d (LC γ) rg.lift D ⟨fun c e s=>tramp (c.ih e s)⟩ (ex.map fun(p:Nat×CK γ)=>(p.1,p.2.lift)) ret.lift with
   |⟨f⟩=>(⟨fun c e s=>FM (fun ih e s=>f ⟨ih,c⟩ e s) 1000000 e s⟩:CK γ)).f c e' s= .ok v2 s2:=h
  generalize hf:(fden P pr loc a).d (LC γ) rg.lift D ⟨fun c e s=>tramp (c.ih e s)⟩ (ex.map fun(p:Nat×CK γ)=>(p.1,p.2.lift)) ret.lift=q at h
  obtain⟨f⟩:=q
  have h:FM (fun ih e s=>f ⟨ih,c⟩ e s) 1000000 e' s= .ok v2 s2:=h
  obtain⟨x,e1,s1,e1',h1,h2,h3,h4,h5⟩:=Om (nrm:=nrm) (Az a) hr hk hst hf 1000000 e' e s hag hdf h
  exact⟨x,e1,s1,e1',h1,h3,h4,fun h=>absurd h h2,h5⟩
 | .exit id=>fun γ rg D nrm ex ret c n e' e s hr hk hst hag hdf h=>⟨.ext id,e,s,e',rfl,hag,fun t h=>h,fun _=>hdf,h⟩
 | .label l=>fun γ rg D nrm ex ret c n e' e s hr hk hst hag hdf h=>⟨.nrm,e,s,e',rfl,hag,fun t h=>h,fun _=>hdf,h⟩
 | .rangeFunc .. =>fun γ rg D nrm ex ret c n e' e s hr hk hst hag hdf h=>by cases h
 | .goto _=>fun γ rg D nrm ex ret c n e' e s hr hk hst hag hdf h=>by cases h
 | .scope _=>fun γ rg D nrm ex ret c n e' e s hr hk hst hag hdf h=>by cases h
 | .refuse _=>fun γ rg D nrm ex ret c n e' e s hr hk hst hag hdf h=>by cases h
 | .ret=>fun γ rg D nrm ex ret c n e' e s hr hk hst hag hdf h=>⟨.ret,e,s,e',rfl,hag,fun t h=>h,fun _=>hdf,h⟩
end
end
noncomputable section
section
variable {v2:V} {s2:S} {P:Program} {pr:vH} {loc:Nat} {rc:FuncId→List V→S→RO}
theorem OH{r:ResultVar}{g:RV}{e' e:qa}{s:S}{K:V→RO}(hc:resC P loc r=some g)(hag: ∀t,Nat.testBit loc t=false→slot e' t=slot e t)(h:g.f e' s K= .ok v2 s2):isC (v9 P e s.m r)=true∧K (v9 P e s.m r)= .ok v2 s2:=by
 have hi:Inv loc 0 ([]:Mp Unit) () e' e:=FD hag (fun t h=>by simp at h)
 cases r with
 |tmp t=>
  unfold resC at hc
  simp only at hc
  split at hc
  ·rename_i gg hg
   cases hc
   have hx:gg () e'=slot e t:=qU hg hi
   have h:=PY (show qK (gg () e') K= .ok v2 s2 from h)
   rw[hx]at h
   exact h
  ·cases hc
 |cell a t=>
  unfold resC at hc
  simp only at hc
  split at hc
  ·rename_i gg g0 sz hg hs
   cases hb:(g0||Nat.beq sz 1)with
   |false=>rw[hb]at hc;cases hc
   |true=>
    rw[hb]at hc
    cases hc
    have hx:gg () e'=slot e a:=qU hg hi
    have hsz:g0=false→sz=1:=fun h=>by rw[h,Bool.false_or]at hb;exact q1B hb
    obtain⟨u,ks,h1,h2,h3⟩:=M1 (P:=P) hs hsz (show ze g0 sz s.m (gg () e') (fun v=>qK v K)= .ok v2 s2 from h)
    rw[hx]at h3
    have h4:=PY h2
    show isC (jb P s.m t (slot e a)).res=true∧K (jb P s.m t (slot e a)).res=_
    rw[h3];exact h4
  ·cases hc
theorem OI{e' e:qa}{s:S}(hag: ∀t,Nat.testBit loc t=false→slot e' t=slot e t): ∀{l:List ResultVar}{g:RL}{K:List V→RO},resL P loc l=some g→g.f e' s K= .ok v2 s2→(l.map (v9 P e s.m)).all isC=true∧K (l.map (v9 P e s.m))= .ok v2 s2
 |[],g,K,hc,h=>by cases hc;exact⟨rfl,h⟩
 |r::l,g,K,hc,h=>by
  unfold resL at hc
  split at hc
  ·rename_i g1 g2 h1 h2
   cases hc
   obtain⟨k1,k2⟩:=OH h1 hag (show g1 e' s _= .ok v2 s2 from h)
   obtain⟨k3,k4⟩:=OI hag h2 (show g2 e' s _= .ok v2 s2 from k2)
   exact⟨by rw[q1f,List.all_cons,k1,k3];rfl,k4⟩
  ·cases hc
theorem Ws{γ:Type}{c:γ}{l:List ResultVar}{e' e:qa}{s:S}(hag: ∀t,Nat.testBit loc t=false→slot e' t=slot e t)(h:(retC P loc l).f c e' s= .ok v2 s2):v2≠ .und∧retA s (l.map (v9 P e s.m))= .ok v2 s2:=by
 have many: ∀l:List ResultVar,l.length≠1→(match resL P loc l with|some ⟨g⟩=>(⟨fun _ e s=>g e s fun l=> .ok (.tu l) s⟩:CK γ)|none=>badK).f c e' s= .ok v2 s2→v2≠ .und∧retA s (l.map (v9 P e s.m))= .ok v2 s2:=by
  intro l hl h
  split at h
  ·rename_i g hg
   obtain⟨k1,k2⟩:=OI hag hg (show g e' s _= .ok v2 s2 from h)
   have k2:RO.ok (.tu (l.map (v9 P e s.m))) s= .ok v2 s2:=k2
   injection k2 with a b
   subst a;subst b
   refine⟨by simp,?_⟩
   unfold retA
   rw[k1]
   show retL s (l.map (v9 P e s.m))=_
   unfold retL
   split
   ·rename_i v hv
    have:=congrArg List.length hv
    rw[q1c]at this
    exact absurd this hl
   ·rfl
  ·cases h
 match l,h with
 |[],h=>exact many [] (by simp) h
 |[r],h=>
  have h:(match resC P loc r with|some ⟨g⟩=>(⟨fun _ e s=>g e s fun v=> .ok v s⟩:CK γ)|none=>badK).f c e' s= .ok v2 s2:=h
  split at h
  ·rename_i g hg
   obtain⟨k1,k2⟩:=OH hg hag (show g e' s _= .ok v2 s2 from h)
   have k2:RO.ok (v9 P e s.m r) s= .ok v2 s2:=k2
   injection k2 with a b
   subst a;subst b
   refine⟨fun e2=>(by rw[e2]at k1;cases k1),?_⟩
   unfold retA
   show @Bool.rec (fun _=>RO) _ _ (isC (v9 P e s.m r)&&true)=_
   rw[k1];rfl
  ·cases h
 |a::b::r,h=>exact many (a::b::r) (by simp) h
theorem Mz{w:Row}{n:Nat}(h:n≤16):(rowL w n).length=n:=by
 unfold rowL
 rw[q1e]
 show min n 16=n
 omega
theorem XB{tb:FuncId→Nat}(Hst: ∀(f:FuncId) fn c,P.funcs[f]?=some fn→fn.body=some c→zl P c=true){n:Nat}{ih:Rc}(hr:RcLe pr ih.call (Dz P pr n)){f:FuncId}{w:Row}{k:Nat}{s s':S}{v:V}(h:(fnC P pr tb f).g ih w k s= .ok v s'):
  k≤16∧((ji (rowL w k)).c0=w→(∀x∈rowL w k,x≠ .und)→v≠ .und∧Dz P pr (n+1) f (rowL w k) s= .ok v s'):=by
 have e0: ∀vs s,Dz P pr (n+1) f vs s=(match pr f with
   |some g=>addT f (g vs s)
   |none=>(match P.funcs[f]? with
    |some fn=>(match fn.body with
     |some c=> @Bool.rec (fun _=>RO) (.no [17]) (addT f (retR P fn.results.toList (den (Dz P pr n) P c (ji vs) s))) (jB fn.ntmps c&&Nat.ble vs.length 16&&Nat.ble vs.length fn.ntmps&&B8 fn)
     |none=> .no [15])
    |none=> .no [16])):=fun _ _=>rfl
 rw[e0]
 unfold fnC at h
 split at h
 ·rename_i g hg
  obtain⟨h1,h2⟩:=vk (show @Bool.rec (fun _=>RO) (.no [17]) (roK (g (rowL w k) s) fun v s=>qF v fun v=> .ok v s) (Nat.ble k 16)= .ok v s' from h)
  obtain⟨v1,s1,h3,h4⟩:=F8 h2
  obtain⟨h5,h6⟩:=AU h4
  cases h6
  refine⟨q1D h1,fun _ _=>⟨h5,?_⟩⟩
  rw[hg]
  show addT f (g (rowL w k) s)=_
  rw[h3];rfl
 ·rename_i hpr
  rw[hpr]
  simp only
  split at h
  ·rename_i fn hfn
   split at h
   ·rename_i c hc
    cases hk:(jB fn.ntmps c&&B8 fn)with
    |false=>rw[hk]at h;cases h
    |true=>
     rw[hk,cond_true]at h
     simp only[q0P]at hk
     have h:(match(fden P pr (tb f) c).d Rc Kt (2^fn.params.size-1) (retC P (tb f) fn.results.toList) [] (retC P (tb f) fn.results.toList)with
      |⟨run⟩=>(⟨fun rc w n s=> @Bool.rec (fun _=>RO) (.no [17]) (run rc ⟨w,qQ,qQ,qQ,qQ,qQ,qQ,qQ,qQ,qQ,qQ,qQ,qQ,qQ,qQ,qQ⟩ s) (jh (Nat.ble n (Nat.min 16 fn.ntmps)) (Nat.ble fn.params.size n))⟩:FnC)).g ih w k s= .ok v s':=h
     generalize hrun:(fden P pr (tb f) c).d Rc Kt (2^fn.params.size-1) (retC P (tb f) fn.results.toList) [] (retC P (tb f) fn.results.toList)=q at h
     obtain⟨run⟩:=q
     obtain⟨h1,h2⟩:=vk (show @Bool.rec (fun _=>RO) (.no [17]) (run ih ⟨w,qQ,qQ,qQ,qQ,qQ,qQ,qQ,qQ,qQ,qQ,qQ,qQ,qQ,qQ,qQ⟩ s) (jh (Nat.ble k (Nat.min 16 fn.ntmps)) (Nat.ble fn.params.size k))= .ok v s' from h)
     rw[jx]at h1
     have hk16:k≤Nat.min 16 fn.ntmps:=q1D h1.1
     have hp:fn.params.size≤k:=q1D h1.2
     have k16:k≤16:=q1H hk16 (Nat.min_le_left _ _)
     have knt:k≤fn.ntmps:=q1H hk16 (Nat.min_le_right _ _)
     refine⟨k16,fun hw hvs=>?_⟩
     have hE:(⟨w,qQ,qQ,qQ,qQ,qQ,qQ,qQ,qQ,qQ,qQ,qQ,qQ,qQ,qQ,qQ⟩:qa)=ji (rowL w k):=by
      have:ji (rowL w k)=⟨(ji (rowL w k)).c0,qQ,qQ,qQ,qQ,qQ,qQ,qQ,qQ,qQ,qQ,qQ,qQ,qQ,qQ,qQ⟩:=rfl
      rw[this,hw]
     rw[hE]at h2
     have hdf: ∀t,Nat.testBit (2^fn.params.size-1) t=true→slot (ji (rowL w k)) t≠ .und:=fun t ht=>by
      rw[Nat.testBit_two_pow_sub_one]at ht
      have ht:=of_decide_eq_true ht
      have hlen:=Mz (w:=w) k16
      rw[Ej,if_pos (by omega)]
      have hlt:t<(rowL w k).length:=by omega
      rw[GO (q15 hlt)]
      exact hvs _ (List.getElem_mem hlt)
     obtain⟨x,e1,s1,e1',g1,g2,g3,g4,g5⟩:=Az (v2:=v) (s2:=s') c Rc Kt (2^fn.params.size-1) _ [] _ ih fn.ntmps _ (ji (rowL w k)) s hr hk.1 (Hst f fn c hfn hc) (fun t _=>rfl) hdf (by rw[hrun];exact h2)
     have hret: ∀y:X,y= .nrm∨y= .ret→(retC P (tb f) fn.results.toList).f ih e1' s1= .ok v s'→v≠ .und∧retR P fn.results.toList (.ok y e1 s1)= .ok v s':=fun y hy h=>by
      obtain⟨k1,k2⟩:=Ws g2 h
      refine⟨k1,?_⟩
      rcases hy with rfl|rfl<;>exact k2
     have hfin:v≠ .und∧retR P fn.results.toList (.ok x e1 s1)= .ok v s':=by
      cases x with
      |nrm=>exact hret _ (.inl rfl) g5
      |ret=>exact hret _ (.inr rfl) g5
      |ext i=>cases g5
     refine⟨hfin.1,?_⟩
     rw[hfn]
     simp only
     rw[hc]
     simp only
     rw[Mz k16,hk.1,hk.2,Nat.ble_eq_true_of_le k16,Nat.ble_eq_true_of_le knt,g1]
     show addT f (retR P fn.results.toList (.ok x e1 s1))=_
     rw[hfin.2];rfl
   ·cases h
  ·cases h
theorem Li{tb:FuncId→Nat}(Hst: ∀(f:FuncId) fn c,P.funcs[f]?=some fn→fn.body=some c→zl P c=true): ∀n,RcLe pr (Ak P pr tb n).call (Dz P pr (n+1))
 |0=>⟨fun f w k s v s' h=>(by cases h),fun f g hg vs s v s' h=>by
   show(match pr f with|some g=>addT f (g vs s)|none=>_)=_
   rw[hg];simp only;rw[h];rfl⟩
 |n+1=>⟨fun f w k s v s' h=>XB Hst (Li Hst n) h,fun f g hg vs s v s' h=>by
   show(match pr f with|some g=>addT f (g vs s)|none=>_)=_
   rw[hg];simp only;rw[h];rfl⟩
theorem DA{D:List Int}{tb:FuncId→Nat}(Hst: ∀(f:FuncId) fn c,P.funcs[f]?=some fn→fn.body=some c→zl P c=true)(hp:Ex D P pr)(hm:P.follows .mixedOrders=true){n:Nat}{f:FuncId}{vs:List V}{s s':S}{v:V}
  (h:(Ak P pr tb n).call f (ji vs).c0 vs.length s= .ok v s')(hvs: ∀x∈vs,x.ok∧x≠ .und)(hs:SOK D s):CallOk D P f vs s v s':=by
 obtain⟨h1,h2⟩:=(Li (pr:=pr) (tb:=tb) Hst n).code _ _ _ _ _ _ h
 rw[GU h1]at h2
 obtain⟨_,h4⟩:=h2 rfl fun x hx=>(hvs x hx).2
 exact Lh hp hm (n+1) f vs s v s' h4 hvs hs
end
end
noncomputable section
section
variable {D:List Int} {P:Program}
theorem AH{f:FuncId}{vs:List V}{v:V}{s:S}(h:Sig P f (vs.map (qk D)) (qk D v))(hs:SOK D s)(hv:v.ok)(hne:v≠ .und):CallOk D P f vs s v s:=by
 refine⟨h.1,hs,q1G _,hv,hne,fun k hk=> .inl hk,fun us w H β hargs hM hon hdom=>?_⟩
 refine Calls.mono (h.2 us w H β hargs (fun p hp=>by simp at hp) (fun p hp=>by simp at hp) hon) ?_
 rintro e w' ⟨u,H',β',rfl,hst,hsat,_⟩
 have hb:β'=β:=by funext k;exact hst.beta k (by simp[qw])
 subst hb
 have hkeep: ∀b,b<w.heap.size→w'.heap[b]?=w.heap[b]?:=fun b hb=>hst.keep b hb fun k hk=>by simp[kwOf]at hk
 refine⟨u,H',β',rfl,⟨hst.os,hst.tape,hst.output,hst.size,fun b hb _=>hkeep b hb,hst.hle,hst.hnew,hst.hon,fun k _=>rfl,fun k b hb bb c hβ=> .inr ⟨k,by rw[hb];simp,c,hβ⟩⟩,hsat,⟨fun k b hb=>?_,fun k b hb bb c hβ=>?_,hM.inj⟩⟩
 ·exact Blk.rep_congr (hM.rep k b hb) hst.hle (fun _ _=>rfl) (fun bb c hβ=>hkeep bb (hM.own k b hb bb c hβ).2)
 ·obtain⟨h1,h2⟩:=hM.own k b hb bb c hβ
  refine⟨?_,q1J h2 hst.size⟩
  cases hH:H' bb with
  |none=>rfl
  |some cs=>
   rcases hst.hnew bb (by rw[hH];simp)with h3|h3
   ·exact absurd h1 h3
   ·omega
end
def rV(x:Rat):V:= .qq (decide (x.num<0)) x.num.natAbs x.den
theorem UJ(x:Rat):(rV x).okC:=⟨x.den_nz,x.reduced,fun h=>by simp at h;omega⟩
theorem PZ{s:Bool}{n d:Nat}(h:QWF s n d): ∃x:Rat,s=decide (x.num<0)∧n=x.num.natAbs∧d=x.den:=by
 obtain⟨h1,h2,h3⟩:=h
 have hd:0<d:=q1W h1
 refine⟨qd s n d,?_,?_,?_⟩
 ·by_cases hn:n=0
  ·subst hn
   cases s with
   |true=>exact absurd rfl (h3 rfl)
   |false=>rw[A6];rfl
  ·exact(jr (q1W hn) hd).symm
 ·rw[jg hd,h2];simp
 ·rw[(j0 hd).2,h2];simp
theorem EW{s:Bool}{n d:Nat}(hd:0<d):mkQ s n d=rV (qd s n d):=by
 unfold mkQ
 by_cases hn:n=0
 ·subst hn
  rw[A6];rfl
 ·rw[jf hn]
  have e1:=jr (neg:=s) (q1W hn) hd
  have e2:=jg (neg:=s) (n:=n) hd
  have e3:=(j0 (neg:=s) (n:=n) hd).2
  unfold rV
  rw[e1,e2,e3]
  simp only
  cases hg:Nat.beq (Nat.gcd n d) 1 with
  |true=>
   have:=q1B hg
   rw[this];simp
  |false=>rfl
theorem UR(s:Bool)(a:Nat)(t:Bool)(b d:Nat)(hd:0<d):addS s a t b d=rV (mkRat (sgI s a+sgI t b) d):=by
 unfold addS
 cases hst:s==t with
 |true=>
  have:s=t:=by simpa using hst
  subst this
  rw[MC]
  exact EW hd
 |false=>
  have hne:s≠t:=by simpa using hst
  simp only
  cases hb:Nat.ble b a with
  |true=>
   have hb:b≤a:=by simpa using hb
   rw[S9 hne hb]
   exact EW hd
  |false=>
   have hb:a≤b:=by
    have: ¬b≤a:=bleF hb
    omega
   rw[Sa hne hb]
   exact EW hd
theorem OD(x y:Rat)(t:Bool):qadd (decide (x.num<0)) x.num.natAbs x.den t y.num.natAbs y.den=rV (x+yQ t y):=by
 unfold qadd
 show addS _ (x.num.natAbs*y.den) t (y.num.natAbs*x.den) (x.den*y.den)=_
 rw[UR _ _ _ _ _ (q1V x.den_pos y.den_pos),He]
theorem P4(a b:Bool):xorB a b=decide (a≠b):=by cases a<;>cases b<;>rfl
theorem Wh(x y:Rat):qmul (decide (x.num<0)) x.num.natAbs x.den (decide (y.num<0)) y.num.natAbs y.den=rV (x*y):=by
 unfold qmul
 show mkQ _ (x.num.natAbs*y.num.natAbs) (x.den*y.den)=_
 rw[EW (q1V x.den_pos y.den_pos),P4]
 rw[←Dj]
theorem XP (y : Rat) (hy : y.num.natAbs ≠ 0) : y⁻¹ = qd (decide (y.num < 0)) y.den y.num.natAbs := by
 have h0 : y.num ≠ 0 := fun e => hy (by rw [e]; rfl)
 have h1 : 0 < y.num.natAbs := q1W hy
 have h2 : y ≠ 0 := fun e => h0 (by rw [e]; rfl)
 have h3 : qd (decide (y.num < 0)) y.den y.num.natAbs * y = 1 := by
  conv => lhs; rhs; rw [← vD y]
  rw [G4]
  unfold qd
  rw [show (1 : Rat) = mkRat 1 1 from rfl, Rat.mkRat_eq_iff (Nat.ne_of_gt (q1V h1 y.den_pos)) (by decide)]
  simp [sgI, q1R]
 have h4 : y * y⁻¹ = 1 := Rat.mul_inv_cancel y h2
 calc y⁻¹ = 1 * y⁻¹ := (Rat.one_mul _).symm
  _ = (qd (decide (y.num < 0)) y.den y.num.natAbs * y) * y⁻¹ := by rw [h3]
  _ = qd (decide (y.num < 0)) y.den y.num.natAbs := by rw [Rat.mul_assoc, h4, Rat.mul_one]
theorem Wf(x y:Rat)(hy:y.num.natAbs≠0):qmul (decide (x.num<0)) x.num.natAbs x.den (decide (y.num<0)) y.den y.num.natAbs=rV (x/y):=by
 unfold qmul
 show mkQ _ (x.num.natAbs*y.den) (x.den*y.num.natAbs)=_
 rw[EW (q1V x.den_pos (q1W hy)),P4,Rat.div_def,XP y hy]
 conv=>rhs;rw[←vD x,G4]
theorem Yr(x y:Rat):qlt (decide (x.num<0)) x.num.natAbs x.den (decide (y.num<0)) y.num.natAbs y.den=decide (x<y):=by
 have h:=Rat.lt_iff x y
 have hx:=x.den_pos
 have hy:=y.den_pos
 generalize x.num=p at*
 generalize x.den=c at*
 generalize y.num=q at*
 generalize y.den=d at*
 have e: ∀b:Bool,(b=true↔p*(d:Int)<q*(c:Int))→b=decide (x<y):=fun b hb=>by
  cases b with
  |true=>exact(decide_eq_true (h.2 (hb.1 rfl))).symm
  |false=>exact(decide_eq_false (fun hh=>by have:=hb.2 (h.1 hh);cases this)).symm
 apply e
 by_cases hp:p<0
 ·obtain⟨a,rfl⟩: ∃a:Nat,p= -(a:Int):=⟨p.natAbs,by omega⟩
  by_cases hq:q<0
  ·obtain⟨b,rfl⟩: ∃b:Nat,q= -(b:Int):=⟨q.natAbs,by omega⟩
   simp only[hp,hq,decide_true,Int.natAbs_neg,Int.natAbs_natCast,qlt,Int.neg_mul]
   have e1:((a*d:Nat):Int)=(a:Int)*d:=q0S _ _
   have e2:((b*c:Nat):Int)=(b:Int)*c:=q0S _ _
   rw[←e1,←e2]
   show Nat.blt (b*c) (a*d)=true↔_
   simp;omega
  ·simp only[hp,hq,decide_true,decide_false,qlt]
   have h1: -(a:Int)*d<0:=Int.mul_neg_of_neg_of_pos hp (by omega)
   have h2:0≤q*(c:Int):=Int.mul_nonneg (by omega) (by omega)
   simp;omega
 ·obtain⟨a,rfl⟩: ∃a:Nat,p=(a:Int):=⟨p.natAbs,by omega⟩
  by_cases hq:q<0
  ·simp only[hp,hq,decide_true,decide_false,qlt]
   have h1:q*(c:Int)<0:=Int.mul_neg_of_neg_of_pos hq (by omega)
   have h2:0≤(a:Int)*d:=Int.mul_nonneg (by omega) (by omega)
   simp;omega
  ·obtain⟨b,rfl⟩: ∃b:Nat,q=(b:Int):=⟨q.natAbs,by omega⟩
   simp only[hp,hq,decide_false,Int.natAbs_natCast,qlt]
   have e1:((a*d:Nat):Int)=(a:Int)*d:=q0S _ _
   have e2:((b*c:Nat):Int)=(b:Int)*c:=q0S _ _
   rw[←e1,←e2]
   show Nat.blt (a*d) (b*c)=true↔_
   simp only[Nat.blt_eq];omega
theorem RP(x y:Rat):qeq (decide (x.num<0)) x.num.natAbs x.den (decide (y.num<0)) y.num.natAbs y.den=decide (x=y):=by
 unfold qeq
 by_cases h:x=y
 ·subst h;simp
 ·rw[decide_eq_false h]
  cases hq:Nat.beq x.num.natAbs y.num.natAbs&&Nat.beq x.den y.den&&(decide (x.num<0)==decide (y.num<0))with
  |false=>rfl
  |true=>
   simp only[q0P]at hq
   obtain⟨⟨h1,h2⟩,h3⟩:=hq
   have h1:=q1B h1
   have h2:=q1B h2
   have h3:decide (x.num<0)=decide (y.num<0):=by simpa using h3
   exfalso
   apply h
   rw[←vD x,←vD y,h1,h2,h3]
theorem Vc(x y:Rat):cmpV (decide (x.num<0)) x.num.natAbs x.den (decide (y.num<0)) y.num.natAbs y.den=ofI .i64 (cmpQ x y):=by
 unfold cmpV
 rw[Yr,RP]
 unfold cmpQ
 by_cases h1:y<x
 ·rw[decide_eq_true h1,if_neg (fun h=>absurd (Rat.not_lt.2 (Rat.le_of_lt h1)) (fun hh=>hh h)),if_neg (fun h=>by subst h;exact absurd h1 Rat.lt_irrefl)];rfl
 ·rw[decide_eq_false h1]
  by_cases h2:x=y
  ·subst h2;rw[decide_eq_true rfl,if_neg h1,if_pos rfl];rfl
  ·rw[decide_eq_false h2,if_pos,]
   ·rfl
   ·rcases Rat.le_iff_lt_or_eq.1 (Rat.not_lt.1 h1)with h|h
    ·exact h
    ·exact absurd h h2
end
noncomputable section
section
variable {D:List Int} {P:Program}
def qW(D:List Int)(P:Program)(f:FuncId)(g:List V→S→RO):Prop:= ∀vs s v s',g vs s= .ok v s'→(∀x∈vs,x.ok∧x≠ .und)→SOK D s→CallOk D P f vs s v s'
theorem Eb{L:List (Nat×Pt)}(h: ∀p∈L,qW D P p.1 (qY p.2)):Ex D P (prims L):=by
 intro f g hg
 unfold prims at hg
 split at hg
 ·rename_i p hp
  cases hg
  have: ∀L:List (Nat×Pt),look L f=some p→(f,p)∈L:=by
   intro L
   induction L with
   |nil=>intro h;cases h
   |cons q r ih=>
    intro h
    have h:(bif Nat.beq q.1 f then some q.2 else look r f)=some p:=h
    cases hb:Nat.beq q.1 f with
    |true=>
     rw[hb]at h;cases h
     have:=q1B hb
     subst this;simp
    |false=>rw[hb]at h;exact q1i _ (ih h)
  exact h _ (this L hp)
 ·cases hg
theorem wy{a k:Nat}(h:Nat.log2 a≤k):qt a (k+1):=q1J Nat.lt_log2_self (q1Y (by decide) (by omega))
theorem MJ{a:Nat}(h:smB a=true):qt a 68719476736:=qc (by decide) (wy (k:=1000000) (q1D h))
theorem Jf{x:Rat}(h1:smB x.num.natAbs=true)(h2:smB x.den=true):Bnd .rat (.n 68719476736) x:=⟨MJ h1,q1E (MJ h2)⟩
theorem Fr{x:Rat}(h:Bnd .rat (.n 68719476736) x):Bnd .rat (.n 1099511627776) x:=⟨qc (by decide) h.1,GG (by decide) h.2⟩
theorem Dy(x:Rat):(.c (.agg (qm .rat x)):AV)=qk D (rV x):=rfl
theorem rV_k(x:Rat):(rV x).ok∧rV x≠ .und:=⟨UJ x,by simp[rV]⟩
theorem Dh{f:FuncId}{R:Rat→AV}{h:Bool→Nat→Nat→V}(g:Rat→V)(hs: ∀x:Rat,Bnd .rat (.n 68719476736) x→Sig P f (argsE [.rat] x) (R x))(he: ∀x:Rat,h (decide (x.num<0)) x.num.natAbs x.den=g x)(hR: ∀x,R x=qk D (g x))(hg: ∀x,(g x).ok∧g x≠ .und):qW D P f (one h):=by
 intro vs s v s' hv hvs hsk
 unfold one at hv
 split at hv
 ·rename_i a n d
  have hq:QWF a n d:=(hvs (.qq a n d) (by simp)).1
  obtain⟨x,rfl,rfl,rfl⟩:=PZ hq
  cases hb:(smB x.num.natAbs&&smB x.den)with
  |false=>rw[hb]at hv;cases hv
  |true=>
   rw[hb]at hv
   simp only[q0P]at hb
   rw[he]at hv
   have hv:RO.ok (g x) s= .ok v s':=hv
   injection hv with h1 h2
   subst h1;subst h2
   have:=hs x (Jf hb.1 hb.2)
   rw[hR]at this
   exact AH (vs:=[rV x]) this hsk (hg x).1 (hg x).2
 ·cases hv
theorem BJ{f:FuncId}{R:Rat→Rat→AV}{h:Bool→Nat→Nat→Bool→Nat→Nat→V}(g:Rat→Rat→V)(hs: ∀x y:Rat,Bnd .rat (.n 68719476736) x→Bnd .rat (.n 68719476736) y→Sig P f (argsE [.rat,.rat] (x,y)) (R x y))
  (he: ∀x y:Rat,h (decide (x.num<0)) x.num.natAbs x.den (decide (y.num<0)) y.num.natAbs y.den=g x y)(hR: ∀x y,R x y=qk D (g x y))(hg: ∀x y,(g x y).ok∧g x y≠ .und):qW D P f (two h):=by
 intro vs s v s' hv hvs hsk
 unfold two at hv
 split at hv
 ·rename_i a n d a' n' d'
  have hq:QWF a n d:=(hvs (.qq a n d) (by simp)).1
  have hq':QWF a' n' d':=(hvs (.qq a' n' d') (by simp)).1
  obtain⟨x,rfl,rfl,rfl⟩:=PZ hq
  obtain⟨y,rfl,rfl,rfl⟩:=PZ hq'
  cases hb:(smB x.num.natAbs&&smB x.den&&(smB y.num.natAbs&&smB y.den))with
  |false=>rw[hb]at hv;cases hv
  |true=>
   rw[hb]at hv
   simp only[q0P]at hb
   rw[he]at hv
   have hv:RO.ok (g x y) s= .ok v s':=hv
   injection hv with h1 h2
   subst h1;subst h2
   have:=hs x y (Jf hb.1.1 hb.1.2) (Jf hb.2.1 hb.2.2)
   rw[hR]at this
   exact AH (vs:=[rV x,rV y]) this hsk (hg x y).1 (hg x y).2
 ·cases hv
theorem O4(z:Int):(ofI .i64 z).ok∧ofI .i64 z≠ .und:=by cases z<;>exact⟨trivial,by simp[ofI]⟩
theorem Up(z:Int):(.c (.one (.val (.int .i64 z))):AV)=qk D (ofI .i64 z):=by cases z<;>rfl
theorem V0(z:Int):argC (.int .i64) z=qk D (ofI .i64 z):=by cases z<;>rfl
theorem UB{f:FuncId}(hs: ∀x y:Rat,Bnd .rat (.n 68719476736) x→Bnd .rat (.n 68719476736) y→Sig P f (argsE [.rat,.rat] (x,y)) (.c (.agg (qm .rat (x+y))))):qW D P f (qY .add):=
 BJ (h:=qadd) (fun x y=>rV (x+y)) hs (fun x y=>by rw[OD,BK]) (fun x y=>Dy _) fun x y=>rV_k _
theorem UF{f:FuncId}(hs: ∀x y:Rat,Bnd .rat (.n 68719476736) x→Bnd .rat (.n 68719476736) y→Sig P f (argsE [.rat,.rat] (x,y)) (.c (.agg (qm .rat (x-y))))):qW D P f (qY .sub):=
 BJ (h:=fun a b c d e f=>qadd a b c (!d) e f) (fun x y=>rV (x-y)) hs (fun x y=>by rw[OD,Nl,Rat.sub_eq_add_neg]) (fun x y=>Dy _) fun x y=>rV_k _
theorem UE{f:FuncId}(hs: ∀x y:Rat,Bnd .rat (.n 68719476736) x→Bnd .rat (.n 68719476736) y→Sig P f (argsE [.rat,.rat] (x,y)) (.c (.agg (qm .rat (x*y))))):qW D P f (qY .mul):=
 BJ (h:=qmul) (fun x y=>rV (x*y)) hs (fun x y=>Wh x y) (fun x y=>Dy _) fun x y=>rV_k _
theorem q07{f:FuncId}(hs: ∀x y:Rat,Bnd .rat (.n 68719476736) x→Bnd .rat (.n 68719476736) y→Sig P f (argsE [.rat,.rat] (x,y)) (.c (.one (.val (.int .i64 (cmpQ x y)))))):qW D P f (qY .cmp):=
 BJ (h:=cmpV) (fun x y=>ofI .i64 (cmpQ x y)) hs (fun x y=>Vc x y) (fun x y=>Up _) fun x y=>O4 _
theorem RK{f:FuncId}(hs: ∀x y:Rat,Bnd .rat (.n 68719476736) x→Bnd .rat (.n 68719476736) y→Sig P f (argsE [.rat,.rat] (x,y)) (.c (.one (.val (.bool (decide (x=y))))))):qW D P f (qY .same):=
 BJ (h:=fun a b c d e f=> .bb (qeq a b c d e f)) (fun x y=> .bb (decide (x=y))) hs (fun x y=>by rw[RP]) (fun x y=>rfl) fun x y=>⟨trivial,by simp⟩
theorem Uz{x:Rat}(h:x.num=0):x=0:=by
 rw[←vD x,h]
 exact A6 _ _
theorem ZR{x y:Rat}(h:y.num.natAbs=0):x/y=0:=by
 have:y=0:=by
  have:y.num=0:=by omega
  exact Uz this
 rw[this,Rat.div_def,Rat.inv_zero,Rat.mul_zero]
theorem q09{f:FuncId}(hs: ∀x y:Rat,Bnd .rat (.n 68719476736) x→Bnd .rat (.n 68719476736) y→Sig P f (argsE [.rat,.rat] (x,y)) (.tup [.agg (qm .rat (x/y)),.one (.val (.int .i64 (quoC y)))])):qW D P f (qY .quo):=by
 refine BJ (h:=fun a b c d e f=> @Bool.rec (fun _=>V) (.tu [qmul a b c d f e,.nn .i64 0]) (.tu [.qq false 0 1,.nn .i64 3]) (Nat.beq e 0)) (fun x y=> .tu [rV (x/y),ofI .i64 (quoC y)]) hs (fun x y=>?_) (fun x y=>?_) fun x y=>⟨?_,by simp⟩
 ·cases hb:Nat.beq y.num.natAbs 0 with
  |true=>
   have:=q1B hb
   rw[ZR this,show quoC y=3 from if_pos this];rfl
  |false=>
   have:y.num.natAbs≠0:=fun e=>by rw[e]at hb;simp at hb
   simp only
   rw[Wf x y this,show quoC y=0 from if_neg this];rfl
 ·unfold quoC;split<;>rfl
 ·intro v hv
  simp only[q1h,q1p,or_false]at hv
  rcases hv with rfl|rfl
  ·exact UJ _
  ·unfold quoC;split<;>exact trivial
theorem q08{f:FuncId}(hs: ∀x:Rat,Bnd .rat (.n 68719476736) x→Sig P f (argsE [.rat] x) (.c (.agg (qm .rat (-x))))):qW D P f (qY .neg):=by
 refine Dh (h:=fun a b c=> @Bool.rec (fun _=>V) (.qq (!a) b c) (.qq false 0 1) (Nat.beq b 0)) (fun x=>rV (-x)) hs (fun x=>?_) (fun x=>Dy _) fun x=>rV_k _
 cases hb:Nat.beq x.num.natAbs 0 with
 |true=>
  have:=q1B hb
  have:x=0:=Uz (by omega)
  subst this;rfl
 |false=>
  have:x.num.natAbs≠0:=fun e=>by rw[e]at hb;simp at hb
  unfold rV
  simp only[Rat.neg_num,Rat.neg_den,Int.natAbs_neg]
  congr 1
  by_cases h:x.num<0
  ·rw[decide_eq_true h,decide_eq_false (by omega)];rfl
  ·rw[decide_eq_false h,decide_eq_true (by omega)];rfl
theorem RM{f:FuncId}(hs: ∀x:Rat,Bnd .rat (.n 68719476736) x→Sig P f (argsE [.rat] x) (.c (.one (.val (.int .i64 (jv x)))))):qW D P f (qY .sign):=by
 refine Dh (h:=fun a b c=> @Bool.rec (fun _=>V) (@Bool.rec (fun _=>V) (.nn .i64 1) (.zz .i64 0) a) (.nn .i64 0) (Nat.beq b 0)) (fun x=>ofI .i64 (jv x)) hs (fun x=>?_) (fun x=>Up _) fun x=>O4 _
 unfold jv
 cases hb:Nat.beq x.num.natAbs 0 with
 |true=>rw[if_pos (q1B hb)];rfl
 |false=>
  have:x.num.natAbs≠0:=fun e=>by rw[e]at hb;simp at hb
  rw[if_neg this]
  by_cases h:x.num<0
  ·rw[decide_eq_true h,if_pos h];rfl
  ·rw[decide_eq_false h,if_neg h];rfl
theorem OW{n:Nat}(h:smB n=true):Bnd .mag (.n 1099511627776) n:=qc (by decide) (MJ h)
theorem Yh{f:FuncId}(hs: ∀x:Nat,Bnd .mag (.n 1099511627776) x→Sig P f (argsE [.mag] x) (.c (.one (.abs (natP x))))):qW D P f (qY .trim):=by
 intro vs s v s' hv hvs hsk
 have hv:(match vs with|[.mg n]=> @Bool.rec (fun _=>RO) (.no [35]) (.ok (.mg n) s) (smB n)|_=> .no [32])= .ok v s':=hv
 split at hv
 ·rename_i n _
  cases hb:smB n with
  |false=>rw[hb]at hv;cases hv
  |true=>
   rw[hb]at hv
   have hv:RO.ok (.mg n) s= .ok v s':=hv
   injection hv with h1 h2
   subst h1;subst h2
   exact AH (vs:=[.mg n]) (hs n (OW hb)) hsk trivial (by simp)
 ·cases hv
theorem Wa{f:FuncId}(hs: ∀x u:Nat,Bnd .mag (.n 1099511627776) x→Bnd (.nat .u32) (.n 4294967295) u→0<u→Sig P f (argsE [.mag,.nat .u32] (x,u)) (.tup [.one (.abs (natP (x/u))),.one (.val (.int .u32 ((x%u:Nat):Int)))])):qW D P f (qY .small):=by
 intro vs s v s' hv hvs hsk
 have hv:(match vs with|[.mg n,.nn .u32 u]=> @Bool.rec (fun _=>RO) (.no [33]) (.ok (.tu [.mg (Nat.div n u),.nn .u32 (Nat.mod n u)]) s) (smB n&&(Nat.blt 0 u&&Nat.blt u 4294967296))|_=> .no [34])= .ok v s':=hv
 split at hv
 ·rename_i n u _
  cases hb:(smB n&&(Nat.blt 0 u&&Nat.blt u 4294967296))with
  |false=>rw[hb]at hv;cases hv
  |true=>
   rw[hb]at hv
   simp only[q0P]at hb
   obtain⟨h1,h2,h3⟩:=hb
   have h2:0<u:=q1D h2
   have h3:u<4294967296:=q1D h3
   have hv:RO.ok (.tu [.mg (Nat.div n u),.nn .u32 (Nat.mod n u)]) s= .ok v s':=hv
   injection hv with h4 h5
   subst h4;subst h5
   refine AH (vs:=[.mg n,.nn .u32 u]) (hs n u (OW h1) (show u≤4294967295 by omega) h2) hsk ?_ (by simp)
   intro x hx
   simp only[q1h,q1p,or_false]at hx
   rcases hx with rfl|rfl<;>exact trivial
 ·cases hv
theorem UC{f:FuncId}(hs: ∀x:Rat,Bnd .rat (.n 68719476736) x→Sig P f (argsE [.rat] x) (.c (.agg (qm .rat x)))):qW D P f (qY .idq):=
 Dh (h:=fun a b c=> .qq a b c) (fun x=>rV x) hs (fun x=>rfl) (fun x=>Dy _) fun x=>rV_k _
end
end
noncomputable section
section
variable {D:List Int} {P:Program}
theorem Wg{v:V}{a:Bool}{n:Nat}(h:qint v=some (a,n)): ∃z:Int,v=ofI .i64 z∧a=decide (z<0)∧n=z.natAbs∧Bnd (.int .i64) (.n 4611686018427387904) z:=by
 unfold qint at h
 split at h
 ·rename_i m
  cases hb:Nat.ble m 4611686018427387904 with
  |false=>rw[hb]at h;cases h
  |true=>
   rw[hb]at h
   have h:some (false,m)=some (a,n):=h
   injection h with h
   injection h with h1 h2
   subst h1;subst h2
   have:=q1D hb
   exact⟨(m:Int),rfl,(decide_eq_false (by omega)).symm,by simp,by show Int.natAbs (m:Int)≤_;simpa using this⟩
 ·rename_i m
  cases hb:Nat.blt m 4611686018427387904 with
  |false=>rw[hb]at h;cases h
  |true=>
   rw[hb]at h
   have h:some (true,m+1)=some (a,n):=h
   cases h
   have:m+1≤4611686018427387904:=q1D hb
   exact⟨Int.negSucc m,rfl,(decide_eq_true (Int.negSucc_lt_zero m)).symm,rfl,by show Int.natAbs (Int.negSucc m)≤_;simpa using this⟩
 ·cases h
theorem Yv(z:Int):rV (z:Rat)= .qq (decide (z<0)) z.natAbs 1:=by
 unfold rV
 rw[Rat.num_intCast,Rat.den_intCast]
theorem UD{f:FuncId}(hs: ∀z:Int,Bnd (.int .i64) (.n 4611686018427387904) z→Sig P f (argsE [.int .i64] z) (.c (.agg (qm .rat (z:Rat))))):qW D P f (qY .int):=by
 intro vs s v s' hv hvs hsk
 have hv:(match vs with|[v]=>(match qint v with|some (a,n)=>RO.ok (.qq a n 1) s|none=> .no [21])|_=> .no [22])= .ok v s':=hv
 split at hv
 ·split at hv
  ·rename_i u a n hq
   obtain⟨z,rfl,rfl,rfl,hb⟩:=Wg hq
   injection hv with h1 h2
   subst h1;subst h2
   have h:=hs z hb
   rw[Dy (D:=D)]at h
   rw[←Yv]
   refine AH (vs:=[ofI .i64 z]) ?_ hsk (rV_k _).1 (rV_k _).2
   show Sig P f [qk D (ofI .i64 z)] _
   rw[←V0];exact h
  ·cases hv
 ·cases hv
theorem q06{f:FuncId}(hs: ∀x:Rat,Bnd .rat (.n 68719476736) x→Sig P f (argsE [.rat] x) (.c (.agg (qm .rat (absQ x))))):qW D P f (qY .abs):=by
 refine Dh (h:=fun a b c=> .qq false b c) (fun x=>rV (absQ x)) hs (fun x=>?_) (fun x=>Dy _) fun x=>rV_k _
 unfold rV
 rw[←KW,←Gn,Iz]
end
end
noncomputable section
section
variable {D:List Int} {P:Program}
theorem SU {f : FuncId} {k : Key} {b b' : KB} {cs cs' : List Atom} {vs : List V} {v : V} {s s' : S} (hbk : mget s.m k = some b) (hb : b.blk D = .rigid cs) (hb' : b'.blk D = .rigid cs') (hc : ∀ n, js n cs = false) (hc' : ∀ n, js n cs' = false)
  (hargs : ∀ β β' H us, AVs β H (vs.map (qk D)) us → AVs β' H (vs.map (qk D)) us) (hv : ∀ β β' H u, (qk D v).sat β H u → (qk D v).sat β' H u) (hvok : v.ok) (hne : v ≠ .und) (hs' : SOK D s') (hm : s'.m = mset s.m k (some b')) (hnx : s'.nx = s.nx)
  (h : jW P f (.c (.one (.loc 100000 0)) :: vs.map (qk D)) [(100000, .rigid cs)] (qk D v) [(100000, some (.rigid cs'))]) : CallOk D P f (.pp k 0 :: vs) s v s' := by
 have hold : ∀ q b2, mget s'.m q = some b2 → ∃ b1, mget s.m q = some b1 := fun q b2 hq => by
  rw [hm, v4] at hq
  by_cases e : k = q
  ·subst e; exact ⟨b, hbk⟩
  ·rw [if_neg e] at hq; exact ⟨b2, hq⟩
 refine ⟨h.1, hs', by rw [hnx]; exact q1G _, hvok, hne, fun q hq => .inl ?_, fun us w H β hargs0 hM hon hdom => ?_⟩
 ·cases hq2 : mget s'.m q with
  | none => exact absurd hq2 hq
  | some b2 => obtain ⟨b1, h1⟩ := hold q b2 hq2; rw [h1]; simp
 ·cases us with
  | nil => exact hargs0.elim
  | cons u0 ur =>
   obtain ⟨h0, h1⟩ := hargs0
   have h0 : ∃ bb c, β k.num = some (bb, c) ∧ u0 = .pointer (some ⟨bb, 0, none⟩) := h0
   obtain ⟨bb, c, hβ, rfl⟩ := h0
   have hr0 : (Blk.rigid cs).rep β w H k.num := by rw [← hb]; exact hM.rep k b hbk
   have e1 : ∀ β1 : Bm, β1 100000 = β k.num → (Blk.rigid cs).rep β1 w H 100000 := fun β1 e => by
    obtain ⟨b0, c0, arr, T, r1, r2, r3⟩ := hr0
    exact ⟨b0, c0, arr, T, e.trans r1, r2, Sats.congr (Heap.Le.refl _) (fun k' hk => by rw [hc] at hk; cases hk) r3⟩
   have hcall := h.2 (.pointer (some ⟨bb, 0, none⟩) :: ur) w H (fun n => if n = 100000 then β k.num else none) ⟨⟨bb, c, by simp [hβ], rfl⟩, hargs _ _ _ _ h1⟩
    (fun p hp => by
     simp only [q1h, q1p, or_false] at hp
     subst hp
     refine ⟨e1 _ (by simp), fun b0 c0 h0 => ?_⟩
     simp only [if_true] at h0
     exact hM.own k b hbk b0 c0 h0)
    (fun p hp p' hp' hne => by
     simp only [q1h, q1p, or_false] at hp hp'
     subst hp; subst hp'; exact absurd rfl hne) hon
   refine Calls.mono hcall ?_
   rintro e w' ⟨u, H', β', rfl, hst, hsat, hblk⟩
   have hkn : qw [(100000, Blk.rigid cs)] [(100000, some (Blk.rigid cs'))] = [] := rfl
   have hkw : kwOf [(100000, Blk.rigid cs)] [(100000, some (Blk.rigid cs'))] = [100000] := rfl
   have hβ' : β' 100000 = β k.num := by
    have h0 : (100000 : Nat) ∉ qw [(100000, Blk.rigid cs)] [(100000, some (Blk.rigid cs'))] := by rw [hkn]; exact q1p
    rw [hst.beta 100000 h0]; exact if_pos rfl
   have hkeep : ∀ b0, b0 < w.heap.size → (∀ c0, β k.num ≠ some (b0, c0)) → w'.heap[b0]? = w.heap[b0]? := fun b0 hb0 h0 => hst.keep b0 hb0 fun k0 hk0 c0 => by
    rw [hkw] at hk0
    simp only [q1h, q1p, or_false] at hk0
    subst hk0
    simp only [if_true]; exact h0 c0
   have hr1 : (Blk.rigid cs').rep β w' H' k.num := by
    obtain ⟨b0, c0, arr, T, r1, r2, r3⟩ := hblk 100000 (Blk.rigid cs') q1j
    exact ⟨b0, c0, arr, T, hβ'.symm.trans r1, r2, Sats.congr (Heap.Le.refl _) (fun k' hk => by rw [hc'] at hk; cases hk) r3⟩
   refine ⟨u, H', β, rfl, ⟨hst.os, hst.tape, hst.output, hst.size, fun b0 hb0 hk0 => hkeep b0 hb0 fun c0 => hk0 k (by rw [hbk]; simp) c0, hst.hle, hst.hnew, hst.hon, fun q _ => rfl, fun q b2 hq bb0 c0 hβ0 => .inr ?_⟩, hv _ _ _ _ hsat, ⟨fun q b2 hq => ?_, fun q b2 hq bb0 c0 hβ0 => ?_, fun q q' b2 b3 hq hq' hne => ?_⟩⟩
   ·obtain ⟨b1, h1⟩ := hold q b2 hq
    exact ⟨q, by rw [h1]; simp, c0, hβ0⟩
   ·by_cases e : k = q
    ·subst e
     rw [hm, EV] at hq
     cases hq
     rw [hb']; exact hr1
    ·rw [hm, J2 _ _ e] at hq
     refine Blk.rep_congr (hM.rep q b2 hq) hst.hle (fun _ _ => rfl) fun b0 c0 h0 => hkeep b0 (hM.own q b2 hq b0 c0 h0).2 fun c1 h1 => ?_
     exact hM.inj k q b b2 hbk hq e b0 c1 c0 h1 h0
   ·obtain ⟨b1, h1⟩ := hold q b2 hq
    obtain ⟨h2, h3⟩ := hM.own q b1 h1 bb0 c0 hβ0
    refine ⟨?_, q1J h3 hst.size⟩
    cases hH : H' bb0 with
    | none => rfl
    | some cs0 =>
     rcases hst.hnew bb0 (by rw [hH]; simp) with h4 | h4
     ·exact absurd h2 h4
     ·omega
   ·obtain ⟨b4, h4⟩ := hold q b2 hq
    obtain ⟨b5, h5⟩ := hold q' b3 hq'
    exact hM.inj q q' b4 b5 h4 h5 hne
def DOk(D:List Int):Prop:=D.length≤1048576∧ ∀z∈D,Int.natAbs z≤9223372036854775808
theorem DH: ∀D:List Int,D.flatMap (cellsC (.int .i64))=diC D
 |[]=>rfl
 |z::r=>by
  rw[q10,DH r];rfl
theorem Gs(D:List Int):argC (.sl (.int .i64)) D=qk D .dl:=by
 show AV.c (.one (.abs (flP (D.flatMap (cellsC (.int .i64))) D.length)))=AV.c (.one (.abs (diP D)))
 rw[DH];rfl
theorem W9{f:FuncId}(hs:Sig P f (argsE [.sl (.int .i64)] D) (.c (.one (.val (.bool (decide (D.length≤500))))))):qW D P f (qY (.light (decide (D.length≤500)))):=by
 intro vs s v s' hv hvs hsk
 have hv:(match(generalizing:=false) vs with|[.dl]=>RO.ok (.bb (decide (D.length≤500))) s|_=> .no [26])=RO.ok v s':=hv
 split at hv
 ·injection hv with h1 h2
  subst h1;subst h2
  refine AH (vs:=[.dl]) ?_ hsk trivial (by simp)
  show Sig P f [qk D .dl] _
  rw[←Gs];exact hs
 ·cases hv
theorem RI(D:List Int)(j n:Nat)(hn:0<n):(if D.length≤min j D.length then(0:Int)else D.getD (min j D.length) 0%(n:Int))=((outc D j n:Nat):Int):=by
 unfold outc
 by_cases h:D.length≤j
 ·rw[if_pos (by omega),q16 h];rfl
 ·have hj:j<D.length:=by omega
  rw[if_neg (by omega),show min j D.length=j by omega,q15 hj,q11,q15 hj]
  show D[j]%(n:Int)=(((D[j]%(n:Int)).toNat:Nat):Int)
  have:=Int.emod_nonneg D[j] (show(n:Int)≠0 by omega)
  omega
theorem Yf{f:FuncId}(hD:DOk D)(hs: ∀(l:List Int)(j:Nat)(m:Int),DOk l→j≤l.length→0<m→Bnd (.int .i64) (.n 1099511627776) m→
   jW P f (.c (.one (.loc 100000 0))::argsE [.int .i64] m) [(100000,.rigid (qm (.pr (.sl (.int .i64)) (.nat .i64)) (l,j)))] (.c (.one (.val (.int .i64 (if l.length≤j then(0:Int)else l.getD j 0%m)))))
    [(100000,some (.rigid (qm (.pr (.sl (.int .i64)) (.nat .i64)) (if l.length≤j then(l,j)else(l,j+1)))))]):qW D P f (qY .next):=by
 have cells: ∀j:Nat,qm (.pr (.sl (.int .i64)) (.nat .i64)) (D,j)=[.abs (diP D),.val (.int .i64 ((j:Nat):Int))]:=fun j=>by
  show[Atom.abs (flP (D.flatMap (cellsC (.int .i64))) D.length),.val (.int .i64 ((j:Nat):Int))]=_
  rw[DH];rfl
 intro vs s v s' hv hvs hsk
 have hv:(match(generalizing:=false) vs with
  |[.pp k 0,.nn .i64 n]=> @S.rec (fun _=>RO) (fun m nx dn sc=>match(generalizing:=false) mget m k with
   |some (.di j)=> @Bool.rec (fun _=>RO) (.no [28]) (match(generalizing:=false) sc with
    |[]=> .need n
    |(n',x)::r=> @Bool.rec (fun _=>RO) (.no [29]) (.ok (.nn .i64 x) ⟨mset m k (some (.di (Nat.succ j))),nx,Nat.succ dn,r⟩) (Nat.beq n n')) (Nat.beq j dn&&(Nat.blt 0 n&&Nat.blt n 1099511627776))
   |_=> .no [30]) s
  |_=> .no [31])= .ok v s':=hv
 split at hv
 ·rename_i k n _
  obtain⟨m,nx,dn,sc⟩:=s
  have hv:(match(generalizing:=false) mget m k with
   |some (.di j)=> @Bool.rec (fun _=>RO) (.no [28]) (match(generalizing:=false) sc with
    |[]=> .need n
    |(n',x)::r=> @Bool.rec (fun _=>RO) (.no [29]) (.ok (.nn .i64 x) ⟨mset m k (some (.di (Nat.succ j))),nx,Nat.succ dn,r⟩) (Nat.beq n n')) (Nat.beq j dn&&(Nat.blt 0 n&&Nat.blt n 1099511627776))
   |_=> .no [30])= .ok v s':=hv
  split at hv
  ·rename_i j hk
   cases hb:(Nat.beq j dn&&(Nat.blt 0 n&&Nat.blt n 1099511627776))with
   |false=>rw[hb]at hv;cases hv
   |true=>
    rw[hb]at hv
    simp only[q0P]at hb
    obtain⟨h1,h2,h3⟩:=hb
    have h1:j=dn:=q1B h1
    have h2:0<n:=q1D h2
    have h3:n<1099511627776:=q1D h3
    subst h1
    cases sc with
    |nil=>cases hv
    |cons q r=>
     obtain⟨n',x⟩:=q
     have hv: @Bool.rec (fun _=>RO) (.no [29]) (.ok (.nn .i64 x) ⟨mset m k (some (.di (Nat.succ j))),nx,Nat.succ j,r⟩) (Nat.beq n n')= .ok v s':=hv
     cases hn:Nat.beq n n' with
     |false=>rw[hn]at hv;cases hv
     |true=>
      rw[hn]at hv
      have hv3:RO.ok (.nn .i64 x) ⟨mset m k (some (.di (Nat.succ j))),nx,Nat.succ j,r⟩= .ok v s':=hv
      injection hv3 with g1 g2
      subst g1;subst g2
      have:=q1B hn
      subst this
      have hx:outc D j n=x:=hsk.agr 0 (n,x) rfl
      have hs2:SOK D ⟨mset m k (some (.di (Nat.succ j))),nx,Nat.succ j,r⟩:=by
       refine⟨fun q b hq=>?_,fun q hq=>?_,fun i p hp=>?_⟩
       ·have hq:mget (mset m k (some (.di (Nat.succ j)))) q=some b:=hq
        rw[v4]at hq
        split at hq
        ·cases hq;exact trivial
        ·exact hsk.ok q b hq
       ·have hq:mget (mset m k (some (.di (Nat.succ j)))) q≠none:=hq
        rw[v4]at hq
        split at hq
        ·rename_i e;subst e;exact hsk.lt k (show mget m k≠none by rw[hk];simp)
        ·exact hsk.lt q hq
       ·have:=hsk.agr (i+1) p hp
        rw[←this]
        show outc D (j+1+i) p.1=outc D (j+(i+1)) p.1
        rw[show j+1+i=j+(i+1) by omega]
      have hsg:=hs D (min j D.length) (n:Int) hD (Nat.min_le_right _ _) (by omega) (by show Int.natAbs (n:Int)≤_;simp;omega)
      have hn2:(if D.length≤min j D.length then(D,min j D.length)else(D,min j D.length+1))=((D,min (j+1) D.length):List Int×Nat):=by
       by_cases h:D.length≤j
       ·rw[if_pos (by omega),show min j D.length=min (j+1) D.length by omega]
       ·rw[if_neg (by omega),show min j D.length+1=min (j+1) D.length by omega]
      rw[RI D j n h2,hx,hn2,cells,cells]at hsg
      refine SU (s:=⟨m,nx,j,(n,x)::r⟩) (b:= .di j) (b':= .di (j+1)) (vs:=[.nn .i64 n]) (v:= .nn .i64 x) hk rfl rfl (fun _=>rfl) (fun _=>rfl) (fun β β' H us h=>?_) (fun β β' H u h=>h) trivial (by simp) hs2 rfl rfl hsg
      match us,h with
      |[],h=>exact h.elim
      |[u],⟨h1,h2⟩=>exact⟨h1,h2⟩
      |_::_::_,⟨_,h⟩=>exact h.elim
  ·cases hv
 ·cases hv
theorem TR{β:Bm}{w:World}{H:Heap}{k:Nat}{x:Blk}{b0 c0:Nat}(h:x.rep β w H k)(h0:β k=some (b0,c0)):b0<w.heap.size:=by
 cases x with
 |rigid cs=>
  obtain⟨b1,c1,arr,T,h1,h2,_⟩:=h
  rw[h0]at h1;cases h1;exact(Array.getElem?_eq_some_iff.1 h2).1
 |grow es cs=>
  rcases h with⟨h1,_⟩|⟨b1,c1,arr,T,h1,h2,_⟩
  ·rw[h0]at h1;cases h1
  ·rw[h0]at h1;cases h1;exact(Array.getElem?_eq_some_iff.1 h2).1
 |mp l=>
  obtain⟨b1,c1,h1,h2⟩:=h
  rw[h0]at h1;cases h1;exact(Array.getElem?_eq_some_iff.1 h2).1
 |mc l=>
  obtain⟨b1,c1,vs,h1,h2,_⟩:=h
  rw[h0]at h1;cases h1;exact(Array.getElem?_eq_some_iff.1 h2).1
theorem TI{f:FuncId}{k':Key}{b:KB}{vs:List V}{s s':S}(hsucc:s.nx.succ=some k')(hbok:b.ok)(hagr:AgrS D s')(hm:s'.m=mset s.m s.nx (some b))(hnx:s'.nx=k')
  (h:jW P f (vs.map (qk D)) [] (qk D (.pp s.nx 0)) [(s.nx.num,some (b.blk D))])(hs:SOK D s):CallOk D P f vs s (.pp s.nx 0) s':=by
 have hnum:=Key.succ_num hsucc
 have hget: ∀q,mget s'.m q=if s.nx=q then some b else mget s.m q:=fun q=>by rw[hm,v4]
 have hs':SOK D s':=by
  refine⟨fun q b2 hq=>?_,fun q hq=>?_,hagr⟩
  ·rw[hget]at hq
   split at hq
   ·cases hq;exact hbok
   ·exact hs.ok q b2 hq
  ·rw[hget]at hq
   rw[hnx,hnum]
   split at hq
   ·rename_i e;rw[←e];omega
   ·have:=hs.lt q hq;omega
 refine⟨h.1,hs',by rw[hnx,hnum];omega,trivial,by simp,fun q hq=>?_,fun us w H β hargs hM hon hdom=>?_⟩
 ·rw[hget]at hq
  split at hq
  ·rename_i e;rw[←e];exact .inr (q1G _)
  ·exact .inl hq
 ·refine Calls.mono (h.2 us w H β hargs (fun p hp=>by simp at hp) (fun p hp=>by simp at hp) hon) ?_
  rintro e w' ⟨u,H',β',rfl,hst,hsat,hblk⟩
  have hkn:qw [] [(s.nx.num,some (b.blk D))]=[s.nx.num]:=rfl
  have hkw:kwOf [] [(s.nx.num,some (b.blk D))]=[]:=rfl
  have hkd:jl [(s.nx.num,some (b.blk D))]=[]:=rfl
  rw[hkn,hkw,hkd]at hst
  have hb: ∀n,n≠s.nx.num→β' n=β n:=fun n hn=>hst.beta n (by simpa using hn)
  have hq0: ∀q,mget s.m q≠none→q.num≠s.nx.num:=fun q hq=>Nat.ne_of_lt (hs.lt q hq)
  have hnone:β s.nx.num=none:=hdom _ (q1G _) (by rw[hnx,hnum];omega)
  have hkeep: ∀b0,b0<w.heap.size→w'.heap[b0]?=w.heap[b0]?:=fun b0 hb0=>hst.keep b0 hb0 fun k0 hk0=>by simp at hk0
  have hnew: ∀b0 c0,β' s.nx.num=some (b0,c0)→H' b0=none∧w.heap.size≤b0:=fun b0 c0 h0=>by
   obtain⟨h1,h2⟩:=hst.fresh s.nx.num (by simp) b0 c0 h0
   refine⟨h1,?_⟩
   rcases h2 with h2|⟨k0,h2,_⟩
   ·exact h2
   ·simp at h2
  have hold: ∀q b2,mget s.m q=some b2→ ∀bb c,β q.num=some (bb,c)→H' bb=none∧bb<w.heap.size:=fun q b2 hq bb c h0=>by
   obtain⟨h1,h2⟩:=hM.own q b2 hq bb c h0
   refine⟨?_,h2⟩
   cases hH:H' bb with
   |none=>rfl
   |some cs0=>
    rcases hst.hnew bb (by rw[hH];simp)with h4|h4
    ·exact absurd h1 h4
    ·omega
  have hsize: ∀b0 c0,β' s.nx.num=some (b0,c0)→b0<w'.heap.size:=fun b0 c0 h0=>by
   have hr:(b.blk D).rep β' w' H' s.nx.num:=hblk s.nx.num (b.blk D) q1j
   exact TR hr h0
  refine⟨u,H',β',rfl,⟨hst.os,hst.tape,hst.output,hst.size,fun b0 hb0 _=>hkeep b0 hb0,hst.hle,hst.hnew,hst.hon,fun n hn=>hb n (by rw[hnx,hnum]at hn;omega),fun q b2 hq bb c h0=>?_⟩,hsat,⟨fun q b2 hq=>?_,fun q b2 hq bb c h0=>?_,fun q q' b2 b3 hq hq' hne bb c c' h0 h1=>?_⟩⟩
  ·rw[hget]at hq
   split at hq
   ·rename_i e;subst e;exact .inl (hnew bb c h0).2
   ·rw[hb _ (hq0 q (by rw[hq];simp))]at h0
    exact .inr ⟨q,by rw[hq];simp,c,h0⟩
  ·rw[hget]at hq
   split at hq
   ·rename_i e;subst e;cases hq
    exact hblk _ _ q1j
   ·have hr:=hM.rep q b2 hq
    refine Blk.rep_congr hr hst.hle (fun n hn=>?_) fun b0 c0 h0=>hkeep b0 (hM.own q b2 hq b0 c0 h0).2
    refine hb n fun e=>?_
    subst e
    rcases hn with hn|hn
    ·exact hq0 q (by rw[hq];simp) hn.symm
    ·exact(Fv (D:=D) b2 0).2.1 β w H q.num _ hr hn hnone
  ·rw[hget]at hq
   split at hq
   ·rename_i e;subst e;exact⟨(hnew bb c h0).1,hsize bb c h0⟩
   ·rw[hb _ (hq0 q (by rw[hq];simp))]at h0
    obtain⟨h2,h3⟩:=hold q b2 hq bb c h0
    exact⟨h2,q1J h3 hst.size⟩
  ·rw[hget]at hq hq'
   split at hq
   ·rename_i e;subst e
    rw[if_neg hne]at hq'
    rw[hb _ (hq0 q' (by rw[hq'];simp))]at h1
    have:=(hold q' b3 hq' bb c' h1).2
    have:=(hnew bb c h0).2
    omega
   ·rename_i e
    rw[hb _ (hq0 q (by rw[hq];simp))]at h0
    split at hq'
    ·rename_i e2;subst e2
     have:=(hold q b2 hq bb c h0).2
     have:=(hnew bb c' h1).2
     omega
    ·rw[hb _ (hq0 q' (by rw[hq'];simp))]at h1
     exact hM.inj q q' b2 b3 hq hq' hne bb c c' h0 h1
theorem Yg{f:FuncId}(hD:DOk D)(hs: ∀(d:Nat)(l:List Int),DOk l→jW P f (argsE [.sl (.int .i64)] l) [] (.c (.one (.loc d 0))) [(d,some (.rigid (qm (.pr (.sl (.int .i64)) (.nat .i64)) (l,0))))]):qW D P f (qY .roll):=by
 intro vs s v s' hv hvs hsk
 have hv:(match(generalizing:=false) vs with|[.dl]=> @S.rec (fun _=>RO) (fun m nx dn sc=>putK m nx dn sc (.pp nx 0) (.di 0)) s|_=> .no [27])=RO.ok v s':=hv
 split at hv
 ·obtain⟨m,nx,dn,sc⟩:=s
  have hv2:putK m nx dn sc (.pp nx 0) (.di 0)=RO.ok v s':=hv
  unfold putK at hv2
  split at hv2
  ·rename_i k' hk'
   injection hv2 with h1 h2
   subst h1;subst h2
   have h:=hs nx.num D hD
   have hc:qm (.pr (.sl (.int .i64)) (.nat .i64)) (D,0)=[.abs (diP D),.val (.int .i64 ((min 0 D.length:Nat):Int))]:=by
    rw[Nat.zero_min]
    show[Atom.abs (flP (D.flatMap (cellsC (.int .i64))) D.length),.val (.int .i64 ((0:Nat):Int))]=_
    rw[DH];rfl
   rw[hc]at h
   refine TI (s:=⟨m,nx,dn,sc⟩) (b:= .di 0) (vs:=[.dl]) hk' trivial hsk.agr rfl rfl ?_ hsk
   show jW P f [qk D .dl] _ _ _
   rw[←Gs];exact h
  ·cases hv2
 ·cases hv
end
end
noncomputable section
section
variable {D:List Int} {P:Program}
theorem JC{f:FuncId}{vs:List V}{v:V}{s:S}{nx:Key}{s1:S}(h:CallOk D P f vs ⟨mnew,nx,0,[]⟩ v s1)(hs:SOK D s)(hp: ∀β β' H H' u,(qk D v).sat β H u→(qk D v).sat β' H' u)
  (ha: ∀β β' H us,AVs β H (vs.map (qk D)) us→AVs β' H (vs.map (qk D)) us):CallOk D P f vs s v s:=by
 refine⟨h.callable,hs,q1G _,h.ok,h.ne,fun k hk=> .inl hk,fun us w H β hargs hM hon hdom=>?_⟩
 refine Calls.mono (h.calls us w H (fun _=>none) (ha _ _ _ _ hargs) ⟨fun k b hb=>?_,fun k b hb=>?_,fun k k' b b' hb=>?_⟩ hon fun _ _ _=>rfl) ?_
 ·have hb:mget mnew k=some b:=hb
  rw[A3]at hb;cases hb
 ·have hb:mget mnew k=some b:=hb
  rw[A3]at hb;cases hb
 ·have hb:mget mnew k=some b:=hb
  rw[A3]at hb;cases hb
 rintro e w' ⟨u,H',β',rfl,hst,hsat,_⟩
 have hkeep: ∀b,b<w.heap.size→w'.heap[b]?=w.heap[b]?:=fun b hb=>hst.keep b hb fun k hk=>absurd (A3 k) hk
 refine⟨u,H,β,rfl,⟨hst.os,hst.tape,hst.output,hst.size,fun b hb _=>hkeep b hb,Heap.Le.refl _,fun b hb=> .inl hb,fun b cs hb=>?_,fun k _=>rfl,fun k b hb bb c hβ=> .inr ⟨k,by rw[hb];simp,c,hβ⟩⟩,hp _ _ _ _ _ hsat,⟨fun k b hb=>?_,fun k b hb bb c hβ=>?_,hM.inj⟩⟩
 ·obtain⟨T,fz,e⟩:=hon b cs hb
  exact⟨T,fz,by rw[hkeep b (hon.lt (by rw[hb];simp))];exact e⟩
 ·exact Blk.rep_congr (hM.rep k b hb) (Heap.Le.refl _) (fun _ _=>rfl) (fun bb c hβ=>hkeep bb (hM.own k b hb bb c hβ).2)
 ·obtain⟨h3,h4⟩:=hM.own k b hb bb c hβ
  exact⟨h3,q1J h4 hst.size⟩
theorem q0b{f:FuncId}{nx:Key}{s1:S}(h:CallOk D P f [] ⟨mnew,nx,0,[]⟩ (.bb true) s1):qW D P f (qY .tru):=by
 intro vs s v s' hv hvs hsk
 have hv:(match(generalizing:=false) vs with|[]=>RO.ok (.bb true) s|_=> .no [39])=RO.ok v s':=hv
 split at hv
 ·injection hv with h1 h2
  subst h1;subst h2
  exact JC h hsk (fun β β' H H' u h=>h) (fun β β' H us h=>by
   match us,h with
   |[],_=>exact trivial
   |_::_,h=>exact h.elim)
 ·cases hv
theorem ST{l l':List Nat}(h:beqN l l'=true):l=l':=Gt.1 h
theorem Qz{a b:V}(h:bq1 a b=true):a=b:=by
 unfold bq1 at h
 split at h
 ·split at h
  ·simp only[qeq,q0P,beq_iff_eq]at h
   obtain⟨⟨h1,h2⟩,h3⟩:=h
   have h1:=q1B h1;have h2:=q1B h2
   subst h1;subst h2;subst h3;rfl
  ·cases h
 ·split at h
  ·rw[q1B h]
  ·cases h
 ·split at h
  ·rw[q1B h]
  ·cases h
 ·split at h
  ·rw[show _=_ from beq_iff_eq.1 h]
  ·cases h
 ·split at h
  ·rw[ST h]
  ·cases h
 ·cases h
theorem Lf: ∀{l r:List V},bqL l r=true→l=r
 |[],[],_=>rfl
 |[],_::_,h=>by cases h
 |_::_,[],h=>by cases h
 |a::l,b::r,h=>by
  have h: @Bool.rec (fun _=>Bool) false (bqL l r) (bq1 a b)=true:=h
  cases hb:bq1 a b with
  |false=>rw[hb]at h;cases h
  |true=>rw[hb]at h;rw[Qz hb,Lf (l:=l) h]
theorem QB{a b:V}(h:bqV a b=true):a=b:=by
 unfold bqV at h
 split at h
 ·split at h
  ·simp only[q0P]at h
   rw[q1B h.1,Lf h.2]
  ·cases h
 ·split at h
  ·rw[Lf h]
  ·cases h
 ·exact Qz h
theorem QA: ∀{l r:List V},bqA l r=true→l=r
 |[],[],_=>rfl
 |[],_::_,h=>by cases h
 |_::_,[],h=>by cases h
 |a::l,b::r,h=>by
  have h: @Bool.rec (fun _=>Bool) false (bqA l r) (bqV a b)=true:=h
  cases hb:bqV a b with
  |false=>rw[hb]at h;cases h
  |true=>rw[hb]at h;rw[QB hb,QA (l:=l) h]
def F5(v:V):Bool:=match v with| .qq _ _ _| .nn _ _| .zz _ _| .bb _| .st _=>true|_=>false
def BG(v:V):Bool:=match v with| .nn _ _| .zz _ _| .bb _| .st _=>true|_=>false
def C7(v:V):Bool:=match v with| .tu l=>l.all BG|v=>BG v
def B9(v:V):Bool:=match v with| .ag _ l=>l.all F5|v=>F5 v
def arg1(v:V):Bool:=match v with| .qq s n d=>!(Nat.beq d 0)&&(Nat.beq (Nat.gcd n d) 1&&(!s||!(Nat.beq n 0)))| .nn _ _| .zz _ _| .bb _=>true|_=>false
def argB(v:V):Bool:=match v with| .ag w l=>Nat.beq w (wds l)&&l.all arg1|v=>arg1 v
theorem nbeq{a b:Nat}(h:(!(Nat.beq a b))=true):a≠b:=fun e=>by subst e;rw[Nat.beq_refl]at h;cases h
theorem NM{v:V}(h:arg1 v=true):v.un=true∧v.ok1:=by
 cases v with
 |qq s n d=>
  have h:(!(Nat.beq d 0)&&(Nat.beq (Nat.gcd n d) 1&&(!s||!(Nat.beq n 0))))=true:=h
  simp only[q0P]at h
  obtain⟨h1,h2,h3⟩:=h
  refine⟨rfl,nbeq h1,q1B h2,fun e=>?_⟩
  subst e
  exact nbeq (by simpa using h3)
 |_=>first|exact⟨rfl,trivial⟩|(simp[arg1]at h;done)
theorem UZ{v:V}(h:argB v=true):v.ok∧v≠ .und:=by
 cases v with
 |ag w l=>
  have h:(Nat.beq w (wds l)&&l.all arg1)=true:=h
  simp only[q0P]at h
  exact⟨⟨q1B h.1,fun x hx=>NM (List.all_eq_true.1 h.2 x hx)⟩,by simp⟩
 |qq s n d=>exact⟨(NM (v:= .qq s n d) h).2,by simp⟩
 |_=>first|(simp[argB,arg1]at h;done)|exact⟨trivial,by simp⟩
theorem K5: ∀{l:List V},l.all F5=true→ ∀k,js k (cs D l)=false
 |[],_,k=>rfl
 |x::r,h,k=>by
  simp only[List.all_cons,q0P]at h
  rw[vT,CR,K5 h.2 k,Bool.or_false]
  have h1:=h.1
  cases x<;>first|(simp[F5]at h1;done)|rfl
theorem PV{v:V}(h:B9 v=true)(β β':Bm)(H:Heap)(u:Value)(hs:(qk D v).sat β H u):(qk D v).sat β' H u:=by
 have hm: ∀k,(qk D v).men k=false:=by
  intro k
  cases v with
  |ag w l=>exact K5 (D:=D) (l:=l) h k
  |_=>first|(simp[B9,F5]at h;done)|rfl
 exact AV.sat_congr (Heap.Le.refl _) (fun k hk=>by rw[hm k]at hk;cases hk) hs
theorem Ib(β β':Bm)(H H':Heap): ∀{l:List V}{us:List Value},l.all BG=true→CmpSats β H (l.map (V.cmp D)) us→CmpSats β' H' (l.map (V.cmp D)) us
 |[],[],_,_=>trivial
 |[],_::_,_,h=>h.elim
 |_::_,[],_,h=>h.elim
 |x::r,a::us,h,⟨h1,h2⟩=>by
  simp only[List.all_cons,q0P]at h
  refine⟨?_,Ib β β' H H' h.2 h2⟩
  have h3:=h.1
  cases x<;>first|(simp[BG]at h3;done)|exact h1
theorem PW{v:V}(h:C7 v=true)(β β':Bm)(H H':Heap)(u:Value)(hs:(qk D v).sat β H u):(qk D v).sat β' H' u:=by
 cases v with
 |tu l=>
  obtain⟨arr,h1,h2⟩:=(show∃arr:Array Value,u= .tuple arr∧CmpSats β H (l.map (V.cmp D)) arr.toList from hs)
  exact⟨arr,h1,Ib β β' H H' (show l.all BG=true from h) h2⟩
 |_=>first|(simp[C7,BG]at h;done)|exact hs
theorem Ye{f:FuncId}{L:List (List V×V)}{nx:Key}(hc: ∀p∈L,∃s1,CallOk D P f p.1 ⟨mnew,nx,0,[]⟩ p.2 s1)(hp: ∀p∈L,p.1.all B9=true∧C7 p.2=true):qW D P f (qY (.memo L)):=by
 intro vs s v s' hv hvs hsk
 induction L with
 |nil=>cases hv
 |cons p r ih=>
  have hv: @Bool.rec (fun _=>RO) (qY (.memo r) vs s) (.ok p.2 s) (bqA p.1 vs)= .ok v s':=hv
  cases hb:bqA p.1 vs with
  |false=>rw[hb]at hv;exact ih (fun q hq=>hc q (q1i _ hq)) (fun q hq=>hp q (q1i _ hq)) hv
  |true=>
   rw[hb]at hv
   have hv2:RO.ok p.2 s= .ok v s':=hv
   injection hv2 with h1 h2
   subst h1;subst h2
   have e:=QA hb
   obtain⟨s1,h1⟩:=hc p q1j
   obtain⟨h2,h3⟩:=hp p q1j
   rw[←e]
   refine JC h1 hsk (fun β β' H H' u h=>PW h3 _ _ _ _ _ h) fun β β' H us h=>?_
   have: ∀(l:List V) us,l.all B9=true→AVs β H (l.map (qk D)) us→AVs β' H (l.map (qk D)) us:=by
    intro l
    induction l with
    |nil=>intro us _ h;match us,h with
     |[],_=>exact trivial
     |_::_,h=>exact h.elim
    |cons x l ih=>
     intro us ha h
     simp only[List.all_cons,q0P]at ha
     match us,h with
     |[],h=>exact h.elim
     |u::us,⟨h1,h2⟩=>exact⟨PV ha.1 _ _ _ _ h1,ih us ha.2 h2⟩
   exact this _ _ h2 h
theorem q0a{f:FuncId}(hs: ∀x:Rat,Bnd .rat (.n 68719476736) x→Sig P f (argsE [.rat] x) (.tup [.one (.val (.int .i64 (smlV x))),.one (.val (.bool (smlB x)))])):qW D P f (qY .sml):=by
 refine Dh (h:=fun s a c=> @Bool.rec (fun _=>V) (.tu [.nn .i64 0,.bb false]) (.tu [@Bool.rec (fun _=>V) (.nn .i64 a) (@Nat.rec (fun _=>V) (.nn .i64 0) (fun p _=> .zz .i64 p) a) s,.bb (Nat.blt a 268435456)]) (Nat.beq c 1&&Nat.blt a 4294967296)) (fun x=> .tu [ofI .i64 (smlV x),.bb (smlB x)]) hs (fun x=>?_) (fun x=>?_) fun x=>?_
 ·by_cases h:x.den=1∧x.num.natAbs<4294967296
  ·have e1:smlV x=x.num:=if_pos h
   have e2:smlB x=Nat.blt x.num.natAbs 268435456:=by
    unfold smlB
    rw[Bool.eq_iff_iff]
    simp[h.1,Nat.blt_eq]
   have e3:(Nat.beq x.den 1&&Nat.blt x.num.natAbs 4294967296)=true:=by
    rw[q0P]
    exact⟨by rw[h.1];rfl,by simpa[Nat.blt_eq]using h.2⟩
   rw[e1,e2,e3]
   simp only
   by_cases h0:x.num<0
   ·rw[decide_eq_true h0]
    simp only
    obtain⟨p,hp⟩:=Int.eq_negSucc_of_lt_zero h0
    rw[hp];rfl
   ·rw[decide_eq_false h0]
    simp only
    obtain⟨p,hp⟩:=Int.eq_ofNat_of_zero_le (Int.not_lt.1 h0)
    rw[hp];rfl
  ·have e1:smlV x=0:=if_neg h
   have e2:smlB x=false:=decide_eq_false fun e=>h ⟨e.1,by omega⟩
   have e3:(Nat.beq x.den 1&&Nat.blt x.num.natAbs 4294967296)=false:=by
    rw[Bool.eq_false_iff]
    intro e
    rw[q0P]at e
    exact h ⟨q1B e.1,by simpa[Nat.blt_eq]using e.2⟩
   rw[e1,e2,e3];rfl
 ·show AV.tup [.one (.val (.int .i64 (smlV x))),.one (.val (.bool (smlB x)))]=qk D (.tu [ofI .i64 (smlV x),.bb (smlB x)])
  cases smlV x<;>rfl
 ·refine⟨fun y hy=>?_,by simp⟩
  simp only[q1h,q1p,or_false]at hy
  rcases hy with rfl|rfl
  ·cases smlV x<;>exact trivial
  ·exact trivial
theorem q2o{x b:Nat}(h:qt x b):le2 x b:=q1E h
theorem q2e{x:Rat}(h1:smB x.num.natAbs=true)(h2:smB x.den=true):Bnd .rat (.n 1048576) x:=
 ⟨qc (by decide) (wy (k:=1000000) (q1D h1)),q2o (qc (by decide) (wy (k:=1000000) (q1D h2)))⟩
theorem q2i{f:FuncId}{R:Rat→Rat→AV}{h:Bool→Nat→Nat→Bool→Nat→Nat→V}(g:Rat→Rat→V)(hs: ∀x y:Rat,Bnd .rat (.n 1048576) x→Bnd .rat (.n 1048576) y→Sig P f (argsE [.rat,.rat] (x,y)) (R x y))
  (he: ∀x y:Rat,h (decide (x.num<0)) x.num.natAbs x.den (decide (y.num<0)) y.num.natAbs y.den=g x y)(hR: ∀x y,R x y=qk D (g x y))(hg: ∀x y,(g x y).ok∧g x y≠ .und):qW D P f (two h):=by
 intro vs s v s' hv hvs hsk
 unfold two at hv
 split at hv
 ·rename_i a n d a' n' d'
  have hq:QWF a n d:=(hvs (.qq a n d) (by simp)).1
  have hq':QWF a' n' d':=(hvs (.qq a' n' d') (by simp)).1
  obtain⟨x,rfl,rfl,rfl⟩:=PZ hq
  obtain⟨y,rfl,rfl,rfl⟩:=PZ hq'
  cases hb:(smB x.num.natAbs&&smB x.den&&(smB y.num.natAbs&&smB y.den))with
  |false=>rw[hb]at hv;cases hv
  |true=>
   rw[hb]at hv
   simp only[q0P]at hb
   rw[he]at hv
   have hv:RO.ok (g x y) s= .ok v s':=hv
   injection hv with h1 h2
   subst h1;subst h2
   have:=hs x y (q2e hb.1.1 hb.1.2) (q2e hb.2.1 hb.2.2)
   rw[hR]at this
   exact AH (vs:=[rV x,rV y]) this hsk (hg x y).1 (hg x y).2
 ·cases hv
theorem q2n{f:FuncId}(hs: ∀x y:Rat,Bnd .rat (.n 1048576) x→Bnd .rat (.n 1048576) y→Sig P f (argsE [.rat,.rat] (x,y)) (.c (.agg (qm .rat ((x+y)*q2c))))):qW D P f (qY .mid):=by
 refine q2i (h:=fun a b c d e f=>match qadd a b c d e f with| .qq s n m=>qmul s n m false 1 2|v=>v) (fun x y=>rV ((x+y)*q2c)) hs (fun x y=>?_) (fun x y=>Dy _) fun x y=>rV_k _
 rw[OD,BK]
 exact Wh (x+y) q2c
end
end
noncomputable section
section
variable {D:List Int}
theorem q0c:qW D Go.Proofs.Tryz.prog 14 (qY .add):=UB fun x y hx hy=>SH.sig (x,y) ⟨hx,hy⟩ (fun p hp=>by simp at hp)
theorem q0d:qW D Go.Proofs.Tryz.prog 15 (qY .sign):=RM fun x hx=>Xi.sig x hx (fun p hp=>by simp at hp)
theorem q0e:qW D Go.Proofs.Tryz.prog 16 (qY .same):=RK fun x y hx hy=>Xg.sig (x,y) ⟨hx,hy⟩ (fun p hp=>by simp at hp)
theorem q0f:qW D Go.Proofs.Tryz.prog 17 (qY .int):=UD fun z hz=>Zw.sig z (hz.mono (by decide)) (fun p hp=>by simp at hp)
theorem q0g:qW D Go.Proofs.Tryz.prog 53 (qY .sub):=UF fun x y hx hy=>ZD.sig (x,y) ⟨hx,hy⟩ (fun p hp=>by simp at hp)
theorem q0h:qW D Go.Proofs.Tryz.prog 54 (qY .mul):=UE fun x y hx hy=>Zy.sig (x,y) ⟨hx,hy⟩ (fun p hp=>by simp at hp)
theorem q0i:qW D Go.Proofs.Tryz.prog 62 (qY .sign):=RM fun x hx=>ON.sig x hx (fun p hp=>by simp at hp)
theorem q0j:qW D Go.Proofs.Tryz.prog 63 (qY .quo):=q09 fun x y hx hy=>YQ.sig (x,y) ⟨hx,hy⟩ (fun p hp=>by simp at hp)
theorem q0k:qW D Go.Proofs.Tryz.prog 64 (qY .int):=UD fun z hz=>YK.sig z (hz.mono (by decide)) (fun p hp=>by simp at hp)
theorem q0l:qW D Go.Proofs.Tryz.prog 65 (qY .abs):=q06 fun x hx=>Yy.sig x hx (fun p hp=>by simp at hp)
theorem q0m:qW D Go.Proofs.Tryz.prog 67 (qY .mul):=UE fun x y hx hy=>YM.sig (x,y) ⟨hx,hy⟩ (fun p hp=>by simp at hp)
theorem q0n:qW D Go.Proofs.Tryz.prog 71 (qY .sml):=q0a fun x hx=>Yq.sig x hx (fun p hp=>by simp at hp)
theorem q0o:qW D Go.Proofs.Tryz.prog 83 (qY .cmp):=q07 fun x y hx hy=>YC.sig (x,y) ⟨hx,hy⟩ (fun p hp=>by simp at hp)
theorem q0p:qW D Go.Proofs.Tryz.prog 84 (qY .neg):=q08 fun x hx=>SK.sig x hx (fun p hp=>by simp at hp)
theorem Yi:qW D Go.Proofs.Tryz.prog 104 (qY .idq):=UC fun x hx=>K7.sig x (Fr hx) (fun p hp=>by simp at hp)
theorem Yj:qW D Go.Proofs.Tryz.prog 107 (qY .idq):=UC fun x hx=>Yd.sig x (Fr hx) (fun p hp=>by simp at hp)
theorem Yk:qW D Go.Proofs.Tryz.prog 108 (qY .same):=RK fun x y hx hy=>Ww.sig (x,y) ⟨(Fr hx),(Fr hy)⟩ (fun p hp=>by simp at hp)
theorem Yl:qW D Go.Proofs.Tryz.prog 114 (qY .add):=UB fun x y hx hy=>Wl.sig (x,y) ⟨hx,hy⟩ (fun p hp=>by simp at hp)
theorem Ym:qW D Go.Proofs.Tryz.prog 115 (qY .sub):=UF fun x y hx hy=>YS.sig (x,y) ⟨hx,hy⟩ (fun p hp=>by simp at hp)
theorem q2j:qW D Go.Proofs.Tryz.prog 116 (qY .mid):=q2n fun x y hx hy=>q2l.sig (x,y) ⟨hx,hy⟩ (fun p hp=>by simp at hp)
theorem Yn:qW D Go.Proofs.Tryz.prog 124 (qY .trim):=Yh fun x hx=>Kh x hx (fun p hp=>by simp at hp)
theorem Yo:qW D Go.Proofs.Tryz.prog 134 (qY .small):=Wa fun x u hx hu h0=>OX.sig (x,u) ⟨hx,hu⟩ (fun p hp=>by(rcases q1h.1 hp with h|h)<;>first|(rw[h];exact h0)|simp at h)
def tbA:List (Nat×Pt):=[(14,.add),(15,.sign),(16,.same),(17,.int),(53,.sub),(54,.mul),(62,.sign),(63,.quo),(64,.int),(65,.abs),(67,.mul),(71,.sml),(83,.cmp),(84,.neg),(104,.idq),(107,.idq),(108,.same),(114,.add),(115,.sub),(116,.mid),(124,.trim),(134,.small)]
theorem MM: ∀p∈tbA,qW D Go.Proofs.Tryz.prog p.1 (qY p.2):=fun p hp=>by
 unfold tbA at hp
 simp only[q1h,q1p,or_false]at hp
 rcases hp with rfl|rfl|rfl|rfl|rfl|rfl|rfl|rfl|rfl|rfl|rfl|rfl|rfl|rfl|rfl|rfl|rfl|rfl|rfl|rfl|rfl|rfl
 ·exact q0c
 ·exact q0d
 ·exact q0e
 ·exact q0f
 ·exact q0g
 ·exact q0h
 ·exact q0i
 ·exact q0j
 ·exact q0k
 ·exact q0l
 ·exact q0m
 ·exact q0n
 ·exact q0o
 ·exact q0p
 ·exact Yi
 ·exact Yj
 ·exact Yk
 ·exact Yl
 ·exact Ym
 ·exact q2j
 ·exact Yn
 ·exact Yo
end
end
noncomputable section
section
variable {D:List Int}
theorem DOk.bnd{l:List Int}(h:DOk l):Bnd (.sl (.int .i64)) (.s 1048576 (.n 9223372036854775808)) l:=⟨h.1,h.2⟩
theorem Mu(hD:Bnd (.sl (.int .i64)) (.s 9223372036854775807 (.n 9223372036854775808)) D):qW D Go.Proofs.Tryz.prog 4 (qY (.light (decide (D.length≤500)))):=W9 (VV.sig D hD (fun p hp=>by simp at hp))
theorem We(hD:DOk D):qW D Go.Proofs.Tryz.prog 6 (qY .roll):=Yg hD fun d l hl=>Vo.sig d l hl.bnd (fun p hp=>by simp at hp)
theorem Wd(hD:DOk D):qW D Go.Proofs.Tryz.prog 7 (qY .next):=Yf hD fun l j m hl hj h0 hm=>by
 have h:=Vk.sig (l,j) m ⟨hl.bnd,(show j≤1048576 from q1H hj hl.1)⟩ hm (fun p hp=>by(rcases q1h.1 hp with h|h)<;>first|(rw[h];exact h0)|simp at h)
 exact h
end
end
noncomputable section
def stE:S:=⟨mnew,⟨.d0,.d0,.d0,.d0⟩,0,[]⟩
def okB(r:RO):Bool:= @RO.rec (fun _=>Bool) (fun v _=>match v with| .bb b=>b|_=>false) (fun _=>false) (fun _=>false) r
theorem Md{r:RO}(h:okB r=true): ∃s',r= .ok (.bb true) s':=by
 cases r with
 |no t=>cases h
 |need n=>cases h
 |ok v s'=>
  cases v with
  |bb b=>
   have h:b=true:=h
   subst h;exact⟨s',rfl⟩
  |_=>cases h
def locL:List Nat:=[0,0,1,2013913467252294984287792921864364409182112710656,56,36043364507632,56,34359721952,268435328,562948946772480,130816,67108320,130816,34359737312,37778927357158510000640,184,33949664,8160,56,15840,16256,151115719007562165141504,532668864,24,178405799505179512166896501232497244449538048,24,1180554535224219729920,24,1048384,137438951936,1048384,147573952589659373056,952,33847365689392896,18014123493564160,1097363061696,7616,32720,288230376135858176,68719460128,2089920,4835703278458516696725504,73786975195326574336,268311808,4088,56,500170368,2296835689699835904,287948866815261696,268311808,24,5764089143009061749763360073755724300192269916721884894142136320,268311808,480,2097120,8323568,2251776191101440,11692007523460922414819940996569702616912153281536,1125625020480512,1016,267939840,17178787840,1776,288230375610626048,504,120,2016,18446744039079344128,4177648,1016,196352,8556086240,4064,432,457792,232,4763953136893139697413057365469753767936,268311808,8184,7427640198890561649543012352,1970324836026368,35184372056064,8725721056280576,1133358659614641839128576,14456,67092112,8796092956160,33029984,1099511611136,3936,992,36028762650832640,73516197371537518592,1834496,16352,8064,1048440,1073447904,1125865547091968,277277621789195702016,590295810357663496192,952,4072,2,4088,16775168,35183302532032,4088,8587232,2096640,4611685399952095232,1267650600228225883059492225024,67370496,84123985105054882905252835614392320,992,2016,4064,132466033164442550665216,50301888,17557808988096,137438951424,224,356811880641193788252680095882977878000795648,248,2032112,524008,2096608,4000,128992,2287828026580244096,2037032151679167088875178089731766329874812294602794236573305126006473333637623210246668288,288230358956105216,1016,232,8796092956160,268434928,2211912349696,6442442752,18014401781841408,2418298971625086811832320,5708903653220914651203579310974726213113741312,9007164899179520,1152921496014807040,147573917370944446464,7890306461253730304,17179835392,2787571881499075797774052896007727664259072,1237938784924516220542115840,383123885192777840299524475706409925833790771563577344,33537768,2096608,56,2199023132160,271842816,4296014848,0,18014394183020544,4835702990225941540368384,120,8589934584,261632,2199023247360,4290768896,0,0,0,0,0,0,0,0,0,0,0,0,0,0,0,0,0]
def locT(f:FuncId):Nat:=locL.getD f 0
def runE:Bool:=okB ((Ak Go.Proofs.Tryz.prog (prims tbA) locT 60).call 5 (ji []).c0 0 stE)
theorem Dn(D:List Int):SOK D stE:=by
 refine⟨fun k b h=>?_,fun k h=>?_,fun j p h=>?_⟩
 ·rw[show stE.m=mnew from rfl,A3]at h;cases h
 ·rw[show stE.m=mnew from rfl,A3]at h;exact absurd rfl h
 ·have h:([]:List (Nat×Nat))[j]?=some p:=h
  simp at h
def okV(v:V)(r:RO):Bool:= @RO.rec (fun _=>Bool) (fun u _=>bqV u v) (fun _=>false) (fun _=>false) r
def HN(f:FuncId)(L:List (List V×V)):Bool:= @List.rec (List V×V) (fun _=>Bool) true (fun p _ ih=> @Bool.rec (fun _=>Bool) false ih (okV p.2 ((Ak Go.Proofs.Tryz.prog (prims tbA) locT 60).call f (ji p.1).c0 p.1.length stE)&&(p.1.all B9&&C7 p.2&&p.1.all argB))) L
def mmo0:List (List V×V):=[([.ag 9 [.qq false 0 1,.qq false 0 1,.qq false 0 1],.nn .i64 0,.nn .i64 1],.tu [.nn .i64 0,.nn .i64 0,.bb true]),([.ag 9 [.qq false 0 1,.qq false 1 1,.qq false 0 1],.nn .i64 0,.nn .i64 1],.tu [.nn .i64 0,.nn .i64 1,.bb true]),([.ag 9 [.qq false 0 1,.qq false 2 1,.qq false 0 1],.nn .i64 0,.nn .i64 1],.tu [.nn .i64 0,.nn .i64 2,.bb true]),([.ag 9 [.qq false 0 1,.qq false 3 1,.qq false 0 1],.nn .i64 0,.nn .i64 1],.tu [.nn .i64 0,.nn .i64 3,.bb true]),([.ag 9 [.qq false 1 1,.qq false 0 1,.qq false 0 1],.nn .i64 0,.nn .i64 1],.tu [.nn .i64 1,.nn .i64 0,.bb true]),([.ag 9 [.qq false 1 1,.qq false 1 1,.qq false 0 1],.nn .i64 0,.nn .i64 1],.tu [.nn .i64 1,.nn .i64 1,.bb true]),([.ag 9 [.qq false 1 1,.qq false 2 1,.qq false 0 1],.nn .i64 0,.nn .i64 1],.tu [.nn .i64 1,.nn .i64 2,.bb true]),([.ag 9 [.qq false 1 1,.qq false 3 1,.qq false 0 1],.nn .i64 0,.nn .i64 1],.tu [.nn .i64 1,.nn .i64 3,.bb true]),([.ag 9 [.qq false 2 1,.qq false 0 1,.qq false 0 1],.nn .i64 0,.nn .i64 1],.tu [.nn .i64 2,.nn .i64 0,.bb true]),([.ag 9 [.qq false 2 1,.qq false 1 1,.qq false 0 1],.nn .i64 0,.nn .i64 1],.tu [.nn .i64 2,.nn .i64 1,.bb true]),([.ag 9 [.qq false 2 1,.qq false 2 1,.qq false 0 1],.nn .i64 0,.nn .i64 1],.tu [.nn .i64 2,.nn .i64 2,.bb true]),([.ag 9 [.qq false 2 1,.qq false 3 1,.qq false 0 1],.nn .i64 0,.nn .i64 1],.tu [.nn .i64 2,.nn .i64 3,.bb true]),([.ag 9 [.qq false 3 1,.qq false 0 1,.qq false 0 1],.nn .i64 0,.nn .i64 1],.tu [.nn .i64 3,.nn .i64 0,.bb true]),([.ag 9 [.qq false 3 1,.qq false 1 1,.qq false 0 1],.nn .i64 0,.nn .i64 1],.tu [.nn .i64 3,.nn .i64 1,.bb true]),([.ag 9 [.qq false 3 1,.qq false 2 1,.qq false 0 1],.nn .i64 0,.nn .i64 1],.tu [.nn .i64 3,.nn .i64 2,.bb true]),([.ag 9 [.qq false 3 1,.qq false 3 1,.qq false 0 1],.nn .i64 0,.nn .i64 1],.tu [.nn .i64 3,.nn .i64 3,.bb true]),([.ag 9 [.qq false 1 1,.qq false 3 2,.qq false 0 1],.nn .i64 0,.nn .i64 1],.tu [.nn .i64 1,.nn .i64 0,.bb false]),([.ag 9 [.qq false 2 1,.qq false 3 2,.qq false 0 1],.nn .i64 0,.nn .i64 1],.tu [.nn .i64 2,.nn .i64 0,.bb false]),([.ag 9 [.qq false 3 2,.qq false 1 1,.qq false 0 1],.nn .i64 0,.nn .i64 1],.tu [.nn .i64 0,.nn .i64 1,.bb false]),([.ag 9 [.qq false 3 2,.qq false 2 1,.qq false 0 1],.nn .i64 0,.nn .i64 1],.tu [.nn .i64 0,.nn .i64 2,.bb false])]
def mmo1:List (List V×V):=[([.ag 12 [.qq false 0 1,.qq false 0 1,.qq false 1 1,.qq false 0 1],.ag 9 [.qq false 0 1,.qq false 0 1,.qq false 0 1]],.nn .i64 0),([.ag 12 [.qq false 0 1,.qq false 0 1,.qq false 1 1,.qq false 0 1],.ag 9 [.qq false 0 1,.qq false 1 1,.qq false 0 1]],.nn .i64 0),([.ag 12 [.qq false 0 1,.qq false 0 1,.qq false 1 1,.qq false 0 1],.ag 9 [.qq false 0 1,.qq false 2 1,.qq false 0 1]],.nn .i64 0),([.ag 12 [.qq false 0 1,.qq false 0 1,.qq false 1 1,.qq false 0 1],.ag 9 [.qq false 0 1,.qq false 3 1,.qq false 0 1]],.nn .i64 0),([.ag 12 [.qq false 0 1,.qq false 0 1,.qq false 1 1,.qq false 0 1],.ag 9 [.qq false 1 1,.qq false 0 1,.qq false 0 1]],.nn .i64 0),([.ag 12 [.qq false 0 1,.qq false 0 1,.qq false 1 1,.qq false 0 1],.ag 9 [.qq false 1 1,.qq false 1 1,.qq false 0 1]],.nn .i64 0),([.ag 12 [.qq false 0 1,.qq false 0 1,.qq false 1 1,.qq false 0 1],.ag 9 [.qq false 1 1,.qq false 2 1,.qq false 0 1]],.nn .i64 0),([.ag 12 [.qq false 0 1,.qq false 0 1,.qq false 1 1,.qq false 0 1],.ag 9 [.qq false 1 1,.qq false 3 1,.qq false 0 1]],.nn .i64 0),([.ag 12 [.qq false 0 1,.qq false 0 1,.qq false 1 1,.qq false 0 1],.ag 9 [.qq false 2 1,.qq false 0 1,.qq false 0 1]],.nn .i64 0),([.ag 12 [.qq false 0 1,.qq false 0 1,.qq false 1 1,.qq false 0 1],.ag 9 [.qq false 2 1,.qq false 1 1,.qq false 0 1]],.nn .i64 0),([.ag 12 [.qq false 0 1,.qq false 0 1,.qq false 1 1,.qq false 0 1],.ag 9 [.qq false 2 1,.qq false 2 1,.qq false 0 1]],.nn .i64 0),([.ag 12 [.qq false 0 1,.qq false 0 1,.qq false 1 1,.qq false 0 1],.ag 9 [.qq false 2 1,.qq false 3 1,.qq false 0 1]],.nn .i64 0),([.ag 12 [.qq false 0 1,.qq false 0 1,.qq false 1 1,.qq false 0 1],.ag 9 [.qq false 3 1,.qq false 0 1,.qq false 0 1]],.nn .i64 0),([.ag 12 [.qq false 0 1,.qq false 0 1,.qq false 1 1,.qq false 0 1],.ag 9 [.qq false 3 1,.qq false 1 1,.qq false 0 1]],.nn .i64 0),([.ag 12 [.qq false 0 1,.qq false 0 1,.qq false 1 1,.qq false 0 1],.ag 9 [.qq false 3 1,.qq false 2 1,.qq false 0 1]],.nn .i64 0),([.ag 12 [.qq false 0 1,.qq false 0 1,.qq false 1 1,.qq false 0 1],.ag 9 [.qq false 3 1,.qq false 3 1,.qq false 0 1]],.nn .i64 0)]
def mmo2:List (List V×V):=[([.qq false 0 1],.st [48]),([.qq false 1 1],.st [49]),([.qq false 2 1],.st [50]),([.qq false 3 1],.st [51])]
def tbM:List (Nat×Pt):=(137,.memo mmo0)::(47,.memo mmo1)::(68,.memo mmo2)::tbA
def tbF:List (Nat×Pt):=(4,.light true)::(6,.roll)::(7,.next)::(5,.tru)::tbM
def stC(l:List (Nat×Nat)):S:=⟨mnew,⟨.d0,.d0,.d0,.d0⟩,0,l⟩
def runL(l:List (Nat×Nat)):Bool:=okB ((Ak Go.Proofs.Tryz.prog (prims tbF) locT 60).call 3 (ji [.dl]).c0 1 (stC l))
def tbG:List (Nat×Pt):=[(4,.light false),(5,.tru)]
def runG:Bool:=okB ((Ak Go.Proofs.Tryz.prog (prims tbG) locT 60).call 3 (ji [.dl]).c0 1 (stC []))
end
noncomputable section
def bt(b p y:Nat):Nat:= @Bool.rec (fun _=>Nat) 0 (Nat.succ y) (Nat.beq (Nat.mod (Nat.div b p) 2) 1)
def scr(b:Nat)(y:Nat→Nat):List (Nat×Nat):=[(3,bt b 1 (y 0)),(3,bt b 2 (y 1)),(3,bt b 4 (y 2)),(3,bt b 8 (y 3)),(3,bt b 16 (y 4)),(3,bt b 32 (y 5)),(3,bt b 64 (y 6)),(3,bt b 128 (y 7)),(3,bt b 256 (y 8))]
def andR(a b:Bool):Bool:= @Bool.rec (fun _=>Bool) false b a
def rg(y:Nat→Nat)(n:Nat):Nat→Bool:= @Nat.rec (fun _=>Nat→Bool) (fun _=>true) (fun _ ih a=>andR (runL (scr a y)) (ih (Nat.succ a))) n
def Q(a n:Nat):Prop:= ∀y,rg y n a=true
end
end Go.Proofs.YtogldgcllamhcaaGreat.Sx.Kx
