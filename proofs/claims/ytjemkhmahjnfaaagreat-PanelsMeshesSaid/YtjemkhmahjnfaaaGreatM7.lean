/-
Own laws and walks for the claim, part 7: KxP, KzC, KzD, KzE, KzF, KzG, KzH, KzI, KzJ, KzK, KxU, KxX, KxX2, KxY, KxY2, KxY4, KxX3, KxX4, KxY3, KzC0, KzLa. No condition.
-/
import Derived.Test.YtjemkhmahjnfaaaGreatM6
import Derived.Test.YtjemkhmahjnfaaaGreatProg
import Derived.KernelRfl
namespace Go.Proofs.YtjemkhmahjnfaaaGreat.Sx.Kx
open Go
set_option linter.unusedVariables false
set_option linter.unusedSimpArgs false
noncomputable section
section
variable {D:List Int} {P:Program}
theorem Gz{l:List V}{t:Nat}{x:V}(h:l[t]?=some x):nthV l t=x:=by
 simp[nthV,q12,h]
theorem JM{l:List V}{t:Nat}(h:l[t]?=none):nthV l t= .und:=by
 simp[nthV,q12,h]
theorem W2{l:List ResultVar}{r:R}{v:V}{s':S}(h:retR P l r= .ok v s'): ∃x e s,r= .ok x e s∧(x= .nrm∨x= .ret)∧retA s (l.map (v4 P e s.m))= .ok v s':=by
 cases r with
 |no t=>cases h
 |need n=>cases h
 |ok x e s=>
  cases x with
  |nrm=>exact⟨.nrm,e,s,rfl,.inl rfl,h⟩
  |ret=>exact⟨.ret,e,s,rfl,.inr rfl,h⟩
  |ext i=>cases h
theorem Nl{f:Nat}{r:RO}{v:V}{s:S}(h:addT f r= .ok v s):r= .ok v s:=by cases r<;>first|exact h|cases h
theorem Xi{rc:FuncId→List V→S→RO}(hrc:RcOk D P rc)(hm:P.follows .mixedOrders=true){f:FuncId}{fn:Func}{c:Code}(hf:P.funcs[f]?=some fn)(hb:fn.body=some c){vs:List V}{s s':S}{v:V}
  (hk:jz fn.ntmps c=true)(hl16:vs.length≤16)(hln:vs.length≤fn.ntmps)(hname:B2 fn=true)(h:retR P fn.results.toList (den rc P c (j9 vs) s)= .ok v s')(hvs: ∀x∈vs,x.ok∧x≠ .und)(hs:SOK D s):CallOk D P f vs s v s':=by
 obtain⟨x,e1,s1,hden,hx,hret⟩:=W2 h
 obtain⟨hall,rfl,hv⟩:=Ou hret
 have hslots: ∀t,(slot (j9 vs) t).ok:=fun t=>by
  rw[E3]
  split
  ·cases hq:vs[t]? with
   |none=>rw[JM hq];exact trivial
   |some y=>rw[Gz hq];exact(hvs y (q1m hq)).1
  ·exact trivial
 have eok: ∀E:Env,E.Ks=AZ s.m→EOK D E s.nx.num (j9 vs) s:=fun E hE=>by
  refine⟨hslots,hs,q1G _,fun k hk=>?_,fun k hk=> .inl ?_⟩
  ·rw[hE]at hk
   obtain⟨q,b,rfl,hb⟩:=zw.1 hk
   exact hs.lt q (by rw[hb];simp)
  ·rw[hE]
   cases hq:mget s.m k with
   |none=>exact absurd hq hk
   |some b=>exact zw.2 ⟨k,b,rfl,hq⟩
 have hge: ∀k∈AZ s.m,100000≤k:=fun k hk=>by
  obtain⟨q,b,rfl,_⟩:=zw.1 hk
  exact q.num_ge
 have main: ∀(w:World)(H:Heap)(β:Bm),EOK D ⟨w,H,β,AZ s.m,fn.ntmps,hge⟩ s.nx.num e1 s'∧s.nx.num≤s'.nx.num∧
   ∀a w' H' β',Rel D ⟨w,H,β,AZ s.m,fn.ntmps,hge⟩ s.nx.num s'.nx.num (j9 vs) s a w' H' β'→c.wp P (Dl D ⟨w,H,β,AZ s.m,fn.ntmps,hge⟩ s.nx.num s'.nx.num x e1 s') a w':=
  fun w H β=>ze hrc hm c _ fn.ntmps s.nx.num s'.nx.num (j9 vs) s x e1 s' rfl hk hden (eok _ rfl) (q1G _)
 obtain⟨he1,hle,_⟩:=main default (fun _=>none) (fun _=>none)
 have hvo:v.ok∧v≠ .und:=by
  have hok: ∀y∈fn.results.toList.map (v4 P e1 s'.m),y.okC:=by
   intro y hy
   have hc:=List.all_eq_true.1 hall y hy
   obtain⟨r,_,rfl⟩:=List.mem_map.1 hy
   cases r with
   |tmp t=>exact Aa hc (he1.slots t)
   |cell a t=>
    have hne:j4 P s'.m t (slot e1 a)≠ .bad:=fun e2=>by
     have h2:isC (j4 P s'.m t (slot e1 a)).res=true:=hc
     rw[e2]at h2;cases h2
    exact(JB (D:=D) rfl hne he1.sok.ok).1
  rcases hv with⟨y,e2,rfl⟩|⟨_,rfl⟩
  ·have:=hok v (by rw[e2];simp)
   exact⟨V.okC_ok this,vt this⟩
  ·exact⟨hok,by simp⟩
 refine⟨by unfold callable;rw[hf];simp[hb];unfold B2 at hname;simpa using hname,he1.sok,hle,hvo.1,hvo.2,?_,?_⟩
 ·intro k hk
  rcases he1.old k hk with h1|h1
  ·obtain⟨q,b,e2,hb⟩:=zw.1 h1
   have:=Key.num_inj e2
   subst this
   exact .inl (by rw[hb];simp)
  ·exact .inr h1
 ·intro us w H β hargs hM hon hdom
  have hrep:RepF ⟨w,H,β,AZ s.m,fn.ntmps,hge⟩ (qm D (j9 vs) s.m) {tmps:=us.toArray++Array.replicate (fn.ntmps-us.toArray.size) undef,defers:=[]} w H β:=by
   have hvl:=AVs.length hargs
   simp only[q1d]at hvl
   refine⟨rfl,?_,?_,?_,?_,?_,fun _ _=>rfl,rfl,rfl,rfl,q1G _,fun _ _ _=>rfl,Heap.Le.refl _,fun b hb=> .inl hb,hon⟩
   ·simp;omega
   ·intro t av ht
    rw[qA,E3]at ht
    cases hq:vs[t]? with
    |none=>rw[JM hq]at ht;split at ht<;>cases ht
    |some y=>
     have hlt:t<vs.length:=by
      rcases q1K t vs.length with h|h
      ·exact h
      ·rw[q17 h]at hq;cases hq
     rw[if_pos (by omega),Gz hq]at ht
     have hy:=hvs y (q1m hq)
     obtain⟨u,hu,hs⟩:=AVs.get t hargs (a:=qe D y) (by simp[hq])
     refine⟨u,?_,?_⟩
     ·rw[Array.getElem?_append_left (by simp;omega)]
      simpa using hu
     ·rcases V.av_or (D:=D) y with e2|⟨l,e2⟩|e2
      ·exact absurd e2 hy.2
      ·subst e2;cases ht;exact hs
      ·rw[qe,e2]at hs;rw[e2]at ht;cases ht;exact hs
   ·intro k b hb'
    rw[qh]at hb'
    cases hl:mblk s.m k with
    |none=>rw[hl]at hb';cases hb'
    |some x=>
     rw[hl]at hb';simp at hb';subst hb'
     obtain⟨q,rfl,hq⟩:=vE hl
     exact hM.rep q x hq
   ·intro k x b c hx' hβ
    rw[qh]at hx'
    cases hl:mblk s.m k with
    |none=>rw[hl]at hx';cases hx'
    |some y=>
     obtain⟨q,rfl,hq⟩:=vE hl
     obtain⟨h1,h2⟩:=hM.own q y hq b c hβ
     exact⟨h1,h2,.inr ⟨_,zw.2 ⟨q,y,rfl,hq⟩,c,hβ⟩⟩
   ·intro k k' x x' b c c' hx1 hx2 hne hβ
    rw[qh]at hx1 hx2
    cases hl:mblk s.m k with
    |none=>rw[hl]at hx1;cases hx1
    |some y=>
     cases hl':mblk s.m k' with
     |none=>rw[hl']at hx2;cases hx2
     |some y'=>
      obtain⟨q,rfl,hq⟩:=vE hl
      obtain⟨q',rfl,hq'⟩:=vE hl'
      exact hM.inj q q' y y' hq hq' (fun e=>hne (by rw[e])) b c c' hβ
  obtain⟨_,_,hwp⟩:=main w H β
  refine calls_of_wp hf hb (wp_mono (hwp _ w H β ⟨hrep,hdom,fun k _=>rfl⟩) ?_)
  rintro ex a w' ⟨rfl,H',β',hr⟩
  obtain⟨u,hu,hsat⟩:=W3 (P:=P) hr.rep he1.sok.ok he1.slots hret
  have hpost: ∃u' H' β',Ending.returned u= .returned u'∧Sim s.m s'.m s.nx.num s'.nx.num w H β w' H' β'∧(qe D v).sat β' H' u'∧MRep D s'.m w' H' β':=by
   refine⟨u,H',β',rfl,⟨hr.rep.os,hr.rep.tape,hr.rep.output,hr.rep.wsize,?_,hr.rep.hle,hr.rep.hnew,hr.rep.hon,fun k hk=>hr.bet k hk,?_⟩,hsat,⟨?_,?_,?_⟩⟩
   ·intro b hb hk
    refine hr.rep.frame b hb fun k hk' c=>?_
    obtain⟨q,y,rfl,hq⟩:=zw.1 hk'
    exact hk q (by rw[hq];simp) c
   ·intro k b hb bb c hβ
    obtain⟨_,_,h3⟩:=hr.rep.own k.num _ bb c (jH (D:=D) (e:=e1) hb) hβ
    rcases h3 with h3|⟨k0,hk0,c0,h3⟩
    ·exact .inl h3
    ·obtain⟨q,y,rfl,hq⟩:=zw.1 hk0
     exact .inr ⟨q,by rw[hq];simp,c0,h3⟩
   ·intro k b hb;exact hr.rep.blk k.num _ (jH hb)
   ·intro k b hb bb c hβ
    obtain⟨h1,h2,_⟩:=hr.rep.own k.num _ bb c (jH (D:=D) (e:=e1) hb) hβ
    exact⟨h1,h2⟩
   ·intro k k' b b' hb hb' hne bb c c' hβ
    exact hr.rep.inj k.num k'.num _ _ bb c c' (jH (D:=D) (e:=e1) hb) (jH (D:=D) (e:=e1) hb') (fun e=>hne (Key.num_inj e)) hβ
  rcases hx with rfl|rfl
  ·exact⟨hr.rep.defers,u,hu,hpost⟩
  ·exact⟨hr.rep.defers,u,hu,hpost⟩
def Eh(D:List Int)(P:Program)(pr:vw):Prop:= ∀f g,pr f=some g→ ∀vs s v s',g vs s= .ok v s'→(∀x∈vs,x.ok∧x≠ .und)→SOK D s→CallOk D P f vs s v s'
theorem L0{pr:vw}(hpr:Eh D P pr)(hm:P.follows .mixedOrders=true): ∀n,RcOk D P (Dq P pr n)
 |0=>fun f vs s v s' h _ _=>by cases h
 |n+1=>fun f vs s v s' h hvs hs=>by
  have h':(match pr f with
   |some g=>addT f (g vs s)
   |none=>(match P.funcs[f]? with
    |some fn=>(match fn.body with
     |some c=> @Bool.rec (fun _=>RO) (.no [17]) (addT f (retR P fn.results.toList (den (Dq P pr n) P c (j9 vs) s))) (jz fn.ntmps c&&Nat.ble vs.length 16&&Nat.ble vs.length fn.ntmps&&B2 fn)
     |none=> .no [15])
    |none=> .no [16]))=RO.ok v s':=h
  split at h'
  ·rename_i g hg
   exact hpr f g hg vs s v s' (Nl h') hvs hs
  ·split at h'
   ·rename_i fn hf
    split at h'
    ·rename_i c hb
     cases hc:jz fn.ntmps c&&Nat.ble vs.length 16&&Nat.ble vs.length fn.ntmps&&B2 fn with
     |false=>rw[hc]at h';cases h'
     |true=>
      rw[hc]at h'
      simp only[q0Q]at hc
      exact Xi (L0 hpr hm n) hm hf hb hc.1.1.1 (q1D hc.1.1.2) (q1D hc.1.2) hc.2 (Nl h') hvs hs
    ·cases h'
   ·cases h'
end
end
noncomputable section
section
variable {v2:V} {s2:S}
theorem jp{a b:Bool}:ja a b=true↔a=true∧b=true:=by cases a<;>cases b<;>simp[ja]
theorem NS(a b:IntKind):keqF a b=keq a b:=by cases a<;>cases b<;>rfl
theorem NR(k:IntKind):kLim k=lim k:=by cases k<;>rfl
theorem IQ(a:Bool):notB a=!a:=by cases a<;>rfl
theorem HZ{x:V}{f:IntKind→Nat→RO}{z:V→RO}(h:qNN x f z= .ok v2 s2):(∃k n,x= .nn k n∧f k n= .ok v2 s2)∨((∀k n,x≠ .nn k n)∧z x= .ok v2 s2):=by
 cases x<;>first|exact .inl ⟨_,_,rfl,h⟩|exact .inr ⟨by simp,h⟩
theorem Uu{x:V}{f:Nat→RO}(h:qN x f= .ok v2 s2): ∃k n,x= .nn k n∧f n= .ok v2 s2:=by
 cases x<;>first|exact⟨_,_,rfl,h⟩|cases h
theorem DX{x:V}{f:Key→Nat→RO}{g:Key→Nat→Nat→Nat→RO}(h:qP x f g= .ok v2 s2):(∃k o,x= .pp k o∧f k o= .ok v2 s2)∨(∃k i o w,x= .ee k i o w∧g k i o w= .ok v2 s2):=by
 cases x<;>first|exact .inl ⟨_,_,rfl,h⟩|exact .inr ⟨_,_,_,_,rfl,h⟩|cases h
theorem Uv{x:V}{f:Key→Nat→Nat→Nat→Nat→RO}{g:Key→Nat→Nat→Nat→RO}{z:V→RO}(h:qS x f g z= .ok v2 s2):
  (∃k lo n c w,x= .sl k lo n c w∧f k lo n c w= .ok v2 s2)∨(∃k lo n w,x= .gs k lo n w∧g k lo n w= .ok v2 s2)∨z x= .ok v2 s2:=by
 cases x<;>first|exact .inl ⟨_,_,_,_,_,rfl,h⟩|exact .inr (.inl ⟨_,_,_,_,rfl,h⟩)|exact .inr (.inr h)
theorem PO{x:V}{f:Bool→RO}(h:qB x f= .ok v2 s2): ∃b,x= .bb b∧f b= .ok v2 s2:=by cases x<;>first|exact⟨_,rfl,h⟩|cases h
theorem q0q{x:V}{f:Bool→RO}{z:RO}(h:qG x f z= .ok v2 s2):(∃b,x= .bb b∧f b= .ok v2 s2)∨(x= .tu []∧z= .ok v2 s2):=by
 cases x with
 |bb b=>exact .inl ⟨b,rfl,h⟩
 |tu l=>cases l with
  |nil=>exact .inr ⟨rfl,h⟩
  |cons _ _=>cases h
 |_=>cases h
theorem Ut{x:V}{z:RO}(h:qD x z= .ok v2 s2):x≠ .und∧z= .ok v2 s2:=by cases x<;>first|exact⟨by simp,h⟩|cases h
theorem AN{x:V}{f:V→RO}(h:qF x f= .ok v2 s2):x≠ .und∧f x= .ok v2 s2:=by cases x<;>first|exact⟨by simp,h⟩|cases h
theorem PP{x:V}{f:V→RO}(h:qK x f= .ok v2 s2):isC x=true∧f x= .ok v2 s2:=by cases x<;>first|exact⟨rfl,h⟩|cases h
theorem q0r{x:V}{f:List V→RO}(h:qT x f= .ok v2 s2): ∃l,x= .tu l∧f l= .ok v2 s2:=by cases x<;>first|exact⟨_,rfl,h⟩|cases h
theorem ve{b:Bool}{t:List Nat}{z:RO}(h: @Bool.rec (fun _=>RO) (.no t) z b= .ok v2 s2):b=true∧z= .ok v2 s2:=by cases b<;>first|exact⟨rfl,h⟩|cases h
theorem KZ{b:Bool}{t:List Nat}{z:RO}(h: @Bool.rec (fun _=>RO) z (.no t) b= .ok v2 s2):b=false∧z= .ok v2 s2:=by cases b<;>first|exact⟨rfl,h⟩|cases h
theorem q0s{x:V}{s:Nat}{y z:RO}(h:qX x s y z= .ok v2 s2):isC x=true∧x.size=s∧((x.un=true∧y= .ok v2 s2)∨z= .ok v2 s2):=by
 cases x with
 |und=>cases h
 |tu l=>cases h
 |ag w l=>obtain⟨h1,h2⟩:=ve h;exact⟨rfl,q1B h1,.inr h2⟩
 |_=>obtain⟨h1,h2⟩:=ve h;exact⟨rfl,q1B h1,.inl ⟨rfl,h2⟩⟩
theorem HE{k:IntKind}{c:Nat}{K:V→RO}(h:nnK k c K= .ok v2 s2):K (nnW k c)= .ok v2 s2:=by
 unfold nnK at h
 cases hb:Nat.blt c (kLim k)with
 |true=>
  rw[hb]at h
  unfold nnW
  rw[←NR,hb];exact h
 |false=>rw[hb]at h;exact h
theorem UO{op:BinOp}{k:IntKind}{a b:Nat}{K:V→RO}(h:(binH op).f k a b K= .ok v2 s2):binN op k a b≠ .und∧K (binN op k a b)= .ok v2 s2:=by
 have hw: ∀c,nnW k c≠ .und:=fun c=>by
  have:=(BU [] k c).1
  intro e;rw[e]at this;cases this
 cases op with
 |add=>exact⟨hw _,HE h⟩
 |mul=>exact⟨hw _,HE h⟩
 |sub=>
  have h: @Bool.rec (fun _=>RO) (qF (binI .sub k a b) K) (K (.nn k (Nat.sub a b))) (ja (Nat.ble b a) (Nat.blt a (kLim k)))= .ok v2 s2:=h
  have e:ja (Nat.ble b a) (Nat.blt a (kLim k))=(Nat.ble b a&&Nat.blt a (lim k)):=by rw[NR];cases Nat.ble b a<;>rfl
  rw[e]at h
  show @Bool.rec (fun _=>V) (binI .sub k a b) (.nn k (Nat.sub a b)) (Nat.ble b a&&Nat.blt a (lim k))≠ .und∧K (@Bool.rec (fun _=>V) (binI .sub k a b) (.nn k (Nat.sub a b)) (Nat.ble b a&&Nat.blt a (lim k)))=_
  cases hb:Nat.ble b a&&Nat.blt a (lim k)with
  |true=>rw[hb]at h;exact⟨by simp,h⟩
  |false=>rw[hb]at h;exact AN h
 |quo=>
  obtain⟨h1,h2⟩:=KZ h
  have e:binN .quo k a b=nnW k (Nat.div a b):=by show @Bool.rec (fun _=>V) _ _ (Nat.beq b 0)=_;rw[h1]
  rw[e];exact⟨hw _,HE h2⟩
 |rem=>
  obtain⟨h1,h2⟩:=KZ h
  have e:binN .rem k a b= .nn k (Nat.mod a b):=by show @Bool.rec (fun _=>V) _ _ (Nat.beq b 0)=_;rw[h1]
  rw[e];exact⟨by simp,h2⟩
 |eql=>exact⟨by simp[binN],h⟩
 |neq=>have h:K (.bb (notB (Nat.beq a b)))=_:=h;rw[IQ]at h;exact⟨by simp[binN],h⟩
 |lss=>exact⟨by simp[binN],h⟩
 |leq=>exact⟨by simp[binN],h⟩
 |gtr=>exact⟨by simp[binN],h⟩
 |geq=>exact⟨by simp[binN],h⟩
 |_=>exact AN h
theorem LQ(m:qM)(k:Key):z5 m k=mget m k:=by
 have e4: ∀(d:D16)(m:qM),mg4 d m=m.get d:=by intro d m;cases d<;>rfl
 have e3: ∀(d:D16) m,mg3 d m=N16.get m d:=by intro d m;cases d<;>rfl
 have e2: ∀(d:D16) m,mg2 d m=N16.get m d:=by intro d m;cases d<;>rfl
 have e1: ∀(d:D16) m,mg1 d m=N16.get m d:=by intro d m;cases d<;>rfl
 obtain⟨a,b,c,d⟩:=k
 show mg1 d (mg2 c (mg3 b (mg4 a m)))=_
 rw[e1,e2,e3,e4];rfl
theorem LT(m:qM)(k:Key)(v:Option KB):Ae m k v=mset m k v:=by
 have e4: ∀(d:D16)(m:qM),mg4 d m=m.get d:=by intro d m;cases d<;>rfl
 have e3: ∀(d:D16) m,mg3 d m=N16.get m d:=by intro d m;cases d<;>rfl
 have e2: ∀(d:D16) m,mg2 d m=N16.get m d:=by intro d m;cases d<;>rfl
 have s4: ∀(d:D16)(m:qM) x,ms4 d m x=m.set d x:=by intro d m x;cases d<;>rfl
 have s3: ∀(d:D16) m x,ms3 d m x=N16.set m d x:=by intro d m x;cases d<;>rfl
 have s2: ∀(d:D16) m x,ms2 d m x=N16.set m d x:=by intro d m x;cases d<;>rfl
 have s1: ∀(d:D16) m x,ms1 d m x=N16.set m d x:=by intro d m x;cases d<;>rfl
 obtain⟨a,b,c,d⟩:=k
 show ms4 a m (ms3 b (mg4 a m) (ms2 c (mg3 b (mg4 a m)) (ms1 d (mg2 c (mg3 b (mg4 a m))) v)))=_
 rw[s4,s3,s2,s1,e2,e3,e4];rfl
theorem Bt{v:V}{l a c:List V}{o:Nat}(hw:v.wd≤o)(h0:0<o)(h:cut l (o-v.wd)=some (a,c)):cut (v::l) o=some (v::a,c):=by
 obtain⟨p,rfl⟩: ∃p,o=p+1:=⟨o-1,by omega⟩
 rw[Ld,if_pos hw,h]
theorem Nz{v:V}(l:List V)(h:v.wd=1):cut (v::l) 1=some ([v],l):=Bt (by omega) (by omega) (by rw[h];exact wJ l)
theorem Z0{v:V}{f:V→RO}(h:uAt v f= .ok v2 s2): ∃u r,f u= .ok v2 s2∧u.on=true∧ ∀l,cut (v::l) 1=some ([u],r++l):=by
 cases v with
 |und=>cases h
 |tu l=>cases h
 |ag w l=>cases h
 |qq s n d=>exact⟨.bb s,[.mg n,.mg (if d=1 then 0 else d)],h,rfl,fun l=>rfl⟩
 |_=>exact⟨_,[],h,rfl,fun l=>Nz l rfl⟩
theorem ifbeq(d:Nat):(@Bool.rec (fun _=>Nat) d 0 (Nat.beq d 1))=if d=1 then 0 else d:=by
 by_cases h:d=1
 ·subst h;rfl
 ·rw[je h,if_neg h]
theorem QX: ∀{l:List V}{o:Nat}{f:V→RO},ldL l o f= .ok v2 s2→ ∃a u r,f u= .ok v2 s2∧u.on=true∧carve l o 1=some (a,[u],r)
 |[],o,f,h=>by cases h
 |v::l,0,f,h=>by
  obtain⟨u,r,h1,h2,h3⟩:=Z0 (show uAt v f= .ok v2 s2 from h)
  refine⟨[],u,r++l,h1,h2,?_⟩
  unfold carve
  rw[wJ]
  simp only
  rw[h3]
 |v::l,p+1,f,h=>by
  have h:Ct v (fun q=>ldL l q f) p f= .ok v2 s2:=h
  have step:v.wd≤p+1→ldL l (p+1-v.wd) f= .ok v2 s2→ ∃a u r,f u= .ok v2 s2∧u.on=true∧carve (v::l) (p+1) 1=some (a,[u],r):=by
   intro hw h
   obtain⟨a,u,r,h1,h2,h3⟩:=QX h
   unfold carve at h3
   split at h3
   ·rename_i a' c hc
    split at h3
    ·rename_i m' r' hc2
     cases h3
     refine⟨v::a,u,r,h1,h2,?_⟩
     unfold carve
     rw[Bt hw (by omega) hc]
     simp only
     rw[hc2]
    ·cases h3
   ·cases h3
  cases v with
  |und=>cases h
  |tu l=>cases h
  |ag w l=>cases h
  |qq s n d=>
   match p,h,step with
   |0,h,step=>exact⟨[.bb s],.mg n,.mg (if d=1 then 0 else d)::l,h,rfl,rfl⟩
   |1,h,step=>
    have h:f (.mg (@Bool.rec (fun _=>Nat) d 0 (Nat.beq d 1)))= .ok v2 s2:=h
    rw[ifbeq]at h
    exact⟨[.bb s,.mg n],.mg (if d=1 then 0 else d),l,h,rfl,by
    unfold carve
    have e:cut (V.qq s n d::l) (1+1)=some ([.bb s,.mg n],.mg (if d=1 then 0 else d)::l):=rfl
    rw[e]
    simp only
    rw[Nz l rfl]⟩
   |q+2,h,step=>exact step (by show 3≤q+2+1;omega) h
  |_=>exact step (by show 1≤p+1;omega) h
theorem Vs{v u:V}{o:Nat}{a r:List V}(ks:List (Key×KB))(h:carve v.us o 1=some (a,[u],r))(hu:u.on=true):ldS false 1 v o ks= .val u ks:=by
 unfold ldS
 rw[h]
 simp only
 have:mkV false 1 [u]=u:=by show @Bool.rec (fun _=>V) .und u u.on=u;rw[hu]
 rw[this]
 cases u<;>first|rfl|cases hu
theorem DI{v u:V}{o:Nat}{a r:List V}(ks:List (Key×KB))(h1:(Nat.beq o 0&&Nat.beq 1 v.size&&xorB false v.on)=false)(h2:carve v.us o 1=some (a,[u],r))(h3:u.on=true):ldG false 1 v o ks= .val u ks:=by
 unfold ldG
 rw[h1];exact Vs ks h2 h3
theorem LH{v:V}{o:Nat}{f:V→RO}(ks:List (Key×KB))(h:ld1 v o f= .ok v2 s2): ∃u,u≠ .und∧f u= .ok v2 s2∧ldG false 1 v o ks= .val u ks:=by
 have one: ∀{x:V},x.on=true→v=x→(@Nat.rec (fun _=>RO) (f x) (fun _ _=> .no [94]) o= .ok v2 s2)→ ∃u,u≠ .und∧f u= .ok v2 s2∧ldG false 1 v o ks= .val u ks:=by
  intro x hx e h
  subst e
  cases o with
  |succ p=>cases h
  |zero=>
   refine⟨v,okC_ne' hx,h,?_⟩
   unfold ldG
   have:(Nat.beq 0 0&&Nat.beq 1 v.size&&xorB false v.on)=true:=by
    rw[hx]
    have:v.size=1:=by cases v<;>first|rfl|cases hx
    rw[this];rfl
   rw[this]
 cases v with
 |und=>cases h
 |tu l=>cases h
 |ag w l=>
  obtain⟨a,u,r,h1,h2,h3⟩:=QX (show ldL l o f= .ok v2 s2 from h)
  exact⟨u,okC_ne' h2,h1,DI ks (by simp[V.on,xorB]) h3 h2⟩
 |qq s n d=>
  match o,h with
  |0,h=>exact⟨.bb s,by simp,h,DI ks rfl (a:=[]) (r:=[.mg n,.mg (if d=1 then 0 else d)]) rfl rfl⟩
  |1,h=>exact⟨.mg n,by simp,h,DI ks rfl (a:=[.bb s]) (r:=[.mg (if d=1 then 0 else d)]) rfl rfl⟩
  |2,h=>
   have h:f (.mg (@Bool.rec (fun _=>Nat) d 0 (Nat.beq d 1)))= .ok v2 s2:=h
   rw[ifbeq]at h
   exact⟨_,by simp,h,DI ks rfl (a:=[.bb s,.mg n]) (r:=[]) rfl rfl⟩
  |o+3,h=>cases h
 |_=>exact one rfl rfl h
where okC_ne' {v:V} (h:v.on=true):v≠ .und:=fun e=>by subst e;cases h
theorem Vt{g:Bool}{s:Nat}{v:V}{o:Nat}(ks:List (Key×KB))(h:(ldS g s v o []).res≠ .und):ldS g s v o ks= .val (ldS g s v o []).res ks:=by
 unfold ldS at h⊢
 cases hc:carve v.us o s with
 |none=>rw[hc]at h;exact absurd rfl h
 |some p=>
  obtain⟨a,l,r⟩:=p
  rw[hc]at h
  simp only at h⊢
  cases hm:mkV g s l<;>first|(rw[hm]at h;exact absurd rfl h)|rfl
theorem IF: ∀{l:List V}{o:Nat}{f:V→RO}{z:RO},ldL3 l o f z= .ok v2 s2→(∃a u r,f u= .ok v2 s2∧(∃s n d,u= .qq s n d)∧carve l o 3=some (a,[u],r))∨z= .ok v2 s2
 |[],o,f,z,h=> .inr h
 |v::l,0,f,z,h=>by
  cases v with
  |qq s n d=>
   refine .inl ⟨[],.qq s n d,l,h,⟨s,n,d,rfl⟩,?_⟩
   unfold carve
   rw[wJ]
   simp only
   rw[Bt (v:= .qq s n d) (q1G 3) (by omega) (wJ l)]
  |_=>exact .inr h
 |v::l,p+1,f,z,h=>by
  have step:v.wd≤p+1→ldL3 l (p+1-v.wd) f z= .ok v2 s2→(∃a u r,f u= .ok v2 s2∧(∃s n d,u= .qq s n d)∧carve (v::l) (p+1) 3=some (a,[u],r))∨z= .ok v2 s2:=by
   intro hw h
   rcases IF h with⟨a,u,r,h1,h2,h3⟩|h
   ·left
    unfold carve at h3
    split at h3
    ·rename_i a' c hc
     split at h3
     ·rename_i m' r' hc2
      cases h3
      refine⟨v::a,u,r,h1,h2,?_⟩
      unfold carve
      rw[Bt hw (by omega) hc]
      simp only
      rw[hc2]
     ·cases h3
    ·cases h3
   ·exact .inr h
  cases v with
  |und=>exact .inr h
  |tu l=>exact .inr h
  |ag w l=>exact .inr h
  |qq s n d=>
   match p,h,step with
   |0,h,step=>exact .inr h
   |1,h,step=>exact .inr h
   |q+2,h,step=>exact step (by show 3≤q+2+1;omega) h
  |_=>exact step (by show 1≤p+1;omega) h
theorem LI{v:V}{s o:Nat}{K:V→RO}(ks:List (Key×KB))(h:ldA v s o K (qF (ldS true s v o []).res K)= .ok v2 s2): ∃u,u≠ .und∧K u= .ok v2 s2∧ldG true s v o ks= .val u ks:=by
 have slow:(Nat.beq o 0&&Nat.beq s v.size&&xorB true v.on)=false→qF (ldS true s v o []).res K= .ok v2 s2→ ∃u,u≠ .und∧K u= .ok v2 s2∧ldG true s v o ks= .val u ks:=by
  intro h1 h2
  obtain⟨q1,q2⟩:=AN h2
  refine⟨_,q1,q2,?_⟩
  unfold ldG
  rw[h1];exact Vt ks q1
 cases v with
 |und=>cases h
 |tu l=>cases h
 |ag w l=>
  have h: @Bool.rec (fun _=>RO) (@Bool.rec (fun _=>RO) _ (ldL3 l o K _) (Nat.beq s 3)) (K (.ag w l)) (@Bool.rec (fun _=>Bool) false (Nat.beq s w) (Nat.beq o 0))= .ok v2 s2:=h
  cases ho:Nat.beq o 0 with
  |true=>
   rw[ho]at h
   cases hs:Nat.beq s w with
   |true=>
    rw[hs]at h
    refine⟨.ag w l,by simp,h,?_⟩
    unfold ldG
    have:(Nat.beq o 0&&Nat.beq s (V.ag w l).size&&xorB true (V.ag w l).on)=true:=by
     show(Nat.beq o 0&&Nat.beq s w&&true)=true;rw[ho,hs];rfl
    rw[this]
   |false=>
    rw[hs]at h
    have hc:(Nat.beq o 0&&Nat.beq s (V.ag w l).size&&xorB true (V.ag w l).on)=false:=by
     show(Nat.beq o 0&&Nat.beq s w&&true)=false;rw[hs];simp
    cases h3:Nat.beq s 3 with
    |false=>rw[h3]at h;exact slow hc h
    |true=>
     rw[h3]at h
     have h3:=q1B h3
     subst h3
     rcases IF h with⟨a,u,r,h1,⟨sg,n,d,rfl⟩,h4⟩|h
     ·refine⟨_,by simp,h1,?_⟩
      unfold ldG
      rw[hc]
      show ldS true 3 (.ag w l) o ks=_
      unfold ldS
      rw[show(V.ag w l).us=l from rfl,h4];rfl
     ·exact slow hc h
  |false=>
   rw[ho]at h
   have hc:(Nat.beq o 0&&Nat.beq s (V.ag w l).size&&xorB true (V.ag w l).on)=false:=by rw[ho];rfl
   cases h3:Nat.beq s 3 with
   |false=>rw[h3]at h;exact slow hc h
   |true=>
    rw[h3]at h
    have h3:=q1B h3
    subst h3
    rcases IF h with⟨a,u,r,h1,⟨sg,n,d,rfl⟩,h4⟩|h
    ·refine⟨_,by simp,h1,?_⟩
     unfold ldG
     rw[hc]
     show ldS true 3 (.ag w l) o ks=_
     unfold ldS
     rw[show(V.ag w l).us=l from rfl,h4];rfl
    ·exact slow hc h
 |qq sg n d=>
  have h: @Bool.rec (fun _=>RO) _ (K (.qq sg n d)) (@Bool.rec (fun _=>Bool) false (Nat.beq s 3) (Nat.beq o 0))= .ok v2 s2:=h
  cases ho:Nat.beq o 0 with
  |true=>
   rw[ho]at h
   cases hs:Nat.beq s 3 with
   |true=>
    rw[hs]at h
    refine⟨_,by simp,h,?_⟩
    unfold ldG
    have:(Nat.beq o 0&&Nat.beq s (V.qq sg n d).size&&xorB true (V.qq sg n d).on)=true:=by
     show(Nat.beq o 0&&Nat.beq s 3&&true)=true;rw[ho,hs];rfl
    rw[this]
   |false=>
    rw[hs]at h
    exact slow (by show(Nat.beq o 0&&Nat.beq s 3&&true)=false;rw[hs];simp) h
  |false=>rw[ho]at h;exact slow (by rw[ho];rfl) h
 |_=>exact slow (by simp[V.on,xorB]) h
theorem Md{g:Bool}{s:Nat}{v:V}{o:Nat}{K:V→RO}(ks:List (Key×KB))(hs:g=false→s=1)(h:wn g s v o K= .ok v2 s2): ∃u,u≠ .und∧K u= .ok v2 s2∧ldG g s v o ks= .val u ks:=by
 cases g with
 |true=>exact LI ks h
 |false=>have:=hs rfl;subst this;exact LH ks h
theorem LB{b:Option KB}{f:V→RO}(h:kbB b f= .ok v2 s2): ∃v,b=some (.bx v)∧f v= .ok v2 s2:=by
 cases b with
 |none=>cases h
 |some b=>cases b<;>first|exact⟨_,rfl,h⟩|cases h
theorem LE{b:Option KB}{f g:Nat→Nat→Sq V→RO}(h:kbR b f g= .ok v2 s2):(∃es n q,b=some (.arr es n q)∧f es n q= .ok v2 s2)∨(∃es n q,b=some (.gro es n q)∧g es n q= .ok v2 s2):=by
 cases b with
 |none=>cases h
 |some b=>cases b<;>first|exact .inl ⟨_,_,_,rfl,h⟩|exact .inr ⟨_,_,_,rfl,h⟩|cases h
theorem Fy {P : Program} {t : TypeId} {g : Bool} {s : Nat} {m : qM} {p : V} {K : V → RO} {part : V → Nat → RO} (hs : qy P t = some (g, s))
  (hp : ∀ v o ks, part v o = .ok v2 s2 → ∃ u, u ≠ .und ∧ K u = .ok v2 s2 ∧ ldG g s v o ks = .val u ks)
  (h : qP p (fun k o => kbB (z5 m k) fun v => part v o)
   (fun k i o w => kbR (z5 m k) (fun es n q => @Bool.rec (fun _ => RO) (.no [98]) (part (Sq.get .und q i) o) (ja (Nat.beq w es) (Nat.blt i n)))
    (fun es n q => @Bool.rec (fun _ => RO) (.no [98]) (part (Sq.get .und q i) o) (ja (Nat.beq w es) (Nat.blt i n)))) = .ok v2 s2) :
  ∃ u ks, u ≠ .und ∧ K u = .ok v2 s2 ∧ j4 P m t p = .val u ks := by
 have hv : ∀ v o ks, ldV P t v o ks = ldG g s v o ks := fun v o ks => by unfold ldV; rw [hs]
 rcases DX h with ⟨k, o, e, h'⟩ | ⟨k, i, o, w, e, h'⟩ <;> subst e <;> rw [LQ] at h'
 ·obtain ⟨v, hb, h'⟩ := LB h'
  obtain ⟨u, h1, h2, h3⟩ := hp v o [(k, .bx v)] h'
  refine ⟨u, [(k, .bx v)], h1, h2, ?_⟩
  simp only [j4, hb]
  rw [hv]; exact h3
 ·rcases LE h' with ⟨es, n, q, hb, h'⟩ | ⟨es, n, q, hb, h'⟩ <;> obtain ⟨hc, h'⟩ := ve h'
  ·obtain ⟨u, h1, h2, h3⟩ := hp _ o [(k, .arr es n q)] h'
   refine ⟨u, [(k, .arr es n q)], h1, h2, ?_⟩
   simp only [j4, hb]
   rw [jp] at hc
   rw [hc.1, hc.2, hv]; exact h3
  ·obtain ⟨u, h1, h2, h3⟩ := hp _ o [(k, .gro es n q)] h'
   refine ⟨u, [(k, .gro es n q)], h1, h2, ?_⟩
   simp only [j4, hb]
   rw [jp] at hc
   rw [hc.1, hc.2, hv]; exact h3
theorem q0J{x:V}(h:x.un=true):x.us=[x]:=by cases x<;>first|rfl|cases h
theorem RT{x:V}: ∀{l:List V}{o w:Nat}{f:List V→RO}{z:RO},stL l o x w f z= .ok v2 s2→(∃a u r,f (a++x::r)= .ok v2 s2∧carve l o w=some (a,[u],r))∨z= .ok v2 s2
 |[],o,w,f,z,h=> .inr h
 |v::l,0,w,f,z,h=>by
  have h:Cu v w (f (x::l)) z= .ok v2 s2:=h
  have key: ∀n:Nat,v.wd=n→0<n→(@Bool.rec (fun _=>RO) z (f (x::l)) (Nat.beq w n))= .ok v2 s2→(∃a u r,f (a++x::r)= .ok v2 s2∧carve (v::l) 0 w=some (a,[u],r))∨z= .ok v2 s2:=by
   intro n hn h0 h
   cases hb:Nat.beq w n with
   |false=>rw[hb]at h;exact .inr h
   |true=>
    rw[hb]at h
    have:=q1B hb
    subst this
    refine .inl ⟨[],v,l,h,?_⟩
    unfold carve
    rw[wJ]
    simp only
    rw[Bt (Nat.le_of_eq hn) h0 (by rw[hn,Nat.sub_self];exact wJ l)]
  cases v with
  |und=>exact .inr h
  |tu l=>exact .inr h
  |ag w l=>exact .inr h
  |qq s n d=>exact key 3 rfl (by omega) h
  |_=>exact key 1 rfl (by omega) h
 |v::l,p+1,w,f,z,h=>by
  have h:Cv v p (fun q=>stL l q x w (fun l=>f (v::l)) z) z= .ok v2 s2:=h
  have step:v.wd≤p+1→stL l (p+1-v.wd) x w (fun l=>f (v::l)) z= .ok v2 s2→(∃a u r,f (a++x::r)= .ok v2 s2∧carve (v::l) (p+1) w=some (a,[u],r))∨z= .ok v2 s2:=by
   intro hw h
   rcases RT h with⟨a,u,r,h1,h3⟩|h
   ·left
    unfold carve at h3
    split at h3
    ·rename_i a' c hc
     split at h3
     ·rename_i m' r' hc2
      cases h3
      refine⟨v::a,u,r,h1,?_⟩
      unfold carve
      rw[Bt hw (by omega) hc]
      simp only
      rw[hc2]
     ·cases h3
    ·cases h3
   ·exact .inr h
  cases v with
  |und=>exact .inr h
  |tu l=>exact .inr h
  |ag w l=>exact .inr h
  |qq s n d=>
   match p,h,step with
   |0,h,step=>exact .inr h
   |1,h,step=>exact .inr h
   |q+2,h,step=>exact step (by show 3≤q+2+1;omega) h
  |_=>exact step (by show 1≤p+1;omega) h
theorem NX{v x:V}{o s:Nat}{K:V→RO}(h:layF v o s x K= .ok v2 s2):isC x=true∧x.size=s∧ ∃y,putV v o s x=some y∧K y= .ok v2 s2:=by
 unfold layF at h
 obtain⟨h1,h2,h3⟩:=q0s h
 refine⟨h1,h2,?_⟩
 have slow:(@Option.rec V (fun _=>RO) (.no [96]) K (putV v o s x)= .ok v2 s2)→ ∃y,putV v o s x=some y∧K y= .ok v2 s2:=by
  intro h
  cases hp:putV v o s x with
  |none=>rw[hp]at h;cases h
  |some y=>rw[hp]at h;exact⟨y,rfl,h⟩
 rcases h3 with⟨hu,h⟩|h
 ·generalize hz:(@Option.rec V (fun _=>RO) (.no [96]) K (putV v o s x))=z at h slow
  have whole: ∀w:Nat,v.size=w→(@Bool.rec (fun _=>RO) z (K x) (@Bool.rec (fun _=>Bool) false (Nat.beq s w) (Nat.beq o 0)))= .ok v2 s2→ ∃y,putV v o s x=some y∧K y= .ok v2 s2:=by
   intro w hw h
   cases ho:Nat.beq o 0 with
   |false=>rw[ho]at h;exact slow h
   |true=>
    rw[ho]at h
    cases hs:Nat.beq s w with
    |false=>rw[hs]at h;exact slow h
    |true=>
     rw[hs]at h
     refine⟨x,?_,h⟩
     unfold putV
     rw[ho,hw,hs];rfl
  cases v with
  |und=>cases h
  |tu l=>cases h
  |ag w l=>
   have h: @Bool.rec (fun _=>RO) (stL l o x s (fun l=>K (.ag w l)) z) (K x) (@Bool.rec (fun _=>Bool) false (Nat.beq s w) (Nat.beq o 0))= .ok v2 s2:=h
   have part:(Nat.beq o 0&&Nat.beq s w)=false→stL l o x s (fun l=>K (.ag w l)) z= .ok v2 s2→ ∃y,putV (.ag w l) o s x=some y∧K y= .ok v2 s2:=by
    intro hc h
    rcases RT h with⟨a,u,r,h4,h5⟩|h
    ·refine⟨_,?_,h4⟩
     unfold putV
     rw[show(V.ag w l).size=w from rfl,hc,show(V.ag w l).us=l from rfl,h5,q0J hu];rfl
    ·exact slow h
   cases ho:Nat.beq o 0 with
   |false=>rw[ho]at h;exact part (by rw[ho];rfl) h
   |true=>
    rw[ho]at h
    cases hs:Nat.beq s w with
    |false=>rw[hs]at h;exact part (by rw[hs];simp) h
    |true=>
     rw[hs]at h
     refine⟨x,?_,h⟩
     unfold putV
     rw[show(V.ag w l).size=w from rfl,ho,hs];rfl
  |qq sg n d=>exact whole 3 rfl h
  |_=>exact whole 1 rfl h
 ·exact slow h
theorem J0{S0:S}{k:Key}{b:KB}{K:V→S→RO}(h:setS S0 k b K= .ok v2 s2):K (.tu []) ⟨mset S0.m k (some b),S0.nx,S0.dn,S0.sc⟩= .ok v2 s2:=by
 obtain⟨m,nx,dn,sc⟩:=S0
 have h:K (.tu []) ⟨Ae m k (some b),nx,dn,sc⟩= .ok v2 s2:=h
 rw[LT]at h;exact h
theorem RY{P:Program}{t:TypeId}{g:Bool}{s:Nat}{S0:S}{p x:V}{K:V→S→RO}(hs:qy P t=some (g,s))(h:Aj s S0 p x K= .ok v2 s2):
  ∃s1,ap S0 (ww P S0.m t p x)= .ok (.tu []) s1∧K (.tu []) s1= .ok v2 s2:=by
 unfold Aj at h
 rcases DX h with⟨k,o,e,h'⟩|⟨k,i,o,w,e,h'⟩<;>subst e<;>rw[LQ]at h'
 ·obtain⟨v,hb,h'⟩:=LB h'
  obtain⟨h1,h2,y,h3,h4⟩:=NX h'
  refine⟨_,?_,J0 h4⟩
  have:ww P S0.m t (.pp k o) x= .wr (.tu []) [(k,.bx v)] k (.bx y):=by
   simp only[ww,hs,hb,h3]
   rw[h2,h1,Nat.beq_refl];rfl
  rw[this];rfl
 ·rcases LE h' with⟨es,n,q,hb,h'⟩|⟨es,n,q,hb,h'⟩<;>obtain⟨hc,h'⟩:=ve h'<;>obtain⟨h1,h2,y,h3,h4⟩:=NX h'<;>rw[jp]at hc
  ·refine⟨_,?_,J0 h4⟩
   have:ww P S0.m t (.ee k i o w) x= .wr (.tu []) [(k,.arr es n q)] k (.arr es n (Sq.set y q i)):=by
    simp only[ww,hs,hb,h3]
    rw[h2,h1,Nat.beq_refl,hc.1,hc.2];rfl
   rw[this];rfl
  ·refine⟨_,?_,J0 h4⟩
   have:ww P S0.m t (.ee k i o w) x= .wr (.tu []) [(k,.gro es n q)] k (.gro es n (Sq.set y q i)):=by
    simp only[ww,hs,hb,h3]
    rw[h2,h1,Nat.beq_refl,hc.1,hc.2];rfl
   rw[this];rfl
theorem HG{d:D16}{f:D16→RO}{z:RO}(h:nxD d f z= .ok v2 s2):(∃d',d.next=some d'∧f d'= .ok v2 s2)∨(d.next=none∧z= .ok v2 s2):=by
 cases d<;>first|exact .inl ⟨_,rfl,h⟩|exact .inr ⟨rfl,h⟩
theorem TK{k:Key}{f:Key→RO}(h:Bk k f= .ok v2 s2): ∃k',k.succ=some k'∧f k'= .ok v2 s2:=by
 obtain⟨a,b,c,d⟩:=k
 rcases HG (show nxD d _ _= .ok v2 s2 from h)with⟨d',e,h⟩|⟨ed,h⟩
 ·exact⟨_,by simp only[Key.succ,e],h⟩
 rcases HG h with⟨d',e,h⟩|⟨ec,h⟩
 ·exact⟨_,by simp only[Key.succ,ed,e],h⟩
 rcases HG h with⟨d',e,h⟩|⟨eb,h⟩
 ·exact⟨_,by simp only[Key.succ,ed,ec,e],h⟩
 rcases HG h with⟨d',e,h⟩|⟨ea,h⟩
 ·exact⟨_,by simp only[Key.succ,ed,ec,eb,e],h⟩
 cases h
theorem O7{S0:S}{v:V}{K:V→S→RO}(h:newF S0 v K= .ok v2 s2): ∃s1,ap S0 (.nw (.pp S0.nx 0) [] (.bx v))= .ok (.pp S0.nx 0) s1∧K (.pp S0.nx 0) s1= .ok v2 s2:=by
 obtain⟨m,nx,dn,sc⟩:=S0
 have h:Bk nx (fun k'=>K (.pp nx 0) ⟨Ae m nx (some (.bx v)),k',dn,sc⟩)= .ok v2 s2:=h
 obtain⟨k',e,h⟩:=TK h
 rw[LT]at h
 refine⟨_,?_,h⟩
 show putK m nx dn sc _ _=_
 unfold putK
 rw[e]
theorem EZ{r:RO}{K:V→S→RO}(h:roK r K= .ok v2 s2): ∃v s,r= .ok v s∧K v s= .ok v2 s2:=by cases r<;>first|exact⟨_,_,rfl,h⟩|cases h
end
end
noncomputable section
section
variable {v2:V} {s2:S}
theorem Vb(a b:D16)(e:q9):(gTab a b).f e=Kz a b e:=by cases a<;>cases b<;>rfl
theorem Wi(a b:D16)(v:V)(e:q9):(sTab a b).f v e=Pc a b v e:=by cases a<;>cases b<;>rfl
theorem ZT{t:Nat}(ht:Nat.blt t 256=true)(e:q9):(gT t).f e=slot e t:=by unfold gT slot;rw[Vb,ht]
theorem q0x(t:Nat)(v:V)(e:q9):(sT t).f v e=eset e t v:=by unfold sT eset;rw[Wi]
theorem NH{X:Type}{v:V}{f:V→Option X}{x:X}(h:frcV v f none=some x):v≠ .und∧f v=some x:=by cases v<;>first|exact⟨by simp,h⟩|cases h
variable {α:Type} {P:Program} {loc D:Nat} {m:Mp α} {fr:α} {e' e:q9}
def SrcOk(loc:Nat)(fr:α)(e' e:q9)(t:Nat):Src α→Prop
 | .c v=>slot e t=v∧v≠ .und
 | .g d n f=>(d=true→slot e t≠ .und)∧(∀e'',(∀t',n=t'+1→slot e'' t'=slot e' t')→f fr e''=slot e t)∧ ∀t',n=t'+1→Nat.testBit loc t'=false
 | .dead=>True
structure Inv (loc D:Nat) (m:Mp α) (fr:α) (e' e:q9):Prop where
 ag: ∀t,Nat.testBit loc t=false→slot e' t=slot e t
 mp: ∀t x,v6 t m=some x→Nat.testBit loc t=true∧SrcOk loc fr e' e t x
 df: ∀t,Nat.testBit D t=true→slot e t≠ .und
theorem wE{x:Operand}{y:Src α}(h:src loc D m x=some y)(hi:Inv loc D m fr e' e):
  (∀v,y= .c v→qa e x=v∧v≠ .und)∧ ∀d n f,y= .g d n f→f fr e'=qa e x∧(d=true→qa e x≠ .und)∧(∀e'',(∀t',n=t'+1→slot e'' t'=slot e' t')→f fr e''=qa e x)∧ ∀t',n=t'+1→Nat.testBit loc t'=false:=by
 cases x with
 |tmp t=>
  show _
  have h:(bif Nat.testBit loc t then(match v6 t m with|some .dead=>none|y=>y)else(bif Nat.blt t 256 then(match gT t with|⟨f⟩=>some (.g (Nat.testBit D t) (t+1) fun _ e=>f e))else none))=some y:=h
  cases hl:Nat.testBit loc t with
  |true=>
   rw[hl,cond_true]at h
   have h:v6 t m=some y:=by
    split at h
    ·cases h
    ·exact h
   obtain⟨_,h2⟩:=hi.mp t y h
   refine⟨fun v e=>?_,fun d n f e=>?_⟩
   ·subst e;exact h2
   ·subst e;exact⟨h2.2.1 e' fun _ _=>rfl,h2.1,h2.2.1,h2.2.2⟩
  |false=>
   rw[hl,cond_false]at h
   cases hb:Nat.blt t 256 with
   |false=>rw[hb]at h;cases h
   |true=>
    rw[hb,cond_true]at h
    have hg: ∀e'',(gT t).f e''=slot e'' t:=fun e''=>ZT hb e''
    generalize gT t=q at h hg
    obtain⟨f0⟩:=q
    cases h
    refine⟨fun v e=>(by cases e),fun d n f eq=>?_⟩
    cases eq
    have hag:=hi.ag t hl
    refine⟨(by show f0 e'=slot e t;rw[←hag];exact hg e'),hi.df t,fun e'' he=>?_,fun t' ht=>(by have e1:t=t':=Nat.succ.inj ht;rw[←e1];exact hl)⟩
    show f0 e''=slot e t
    rw[←hag,←he t rfl];exact hg e''
 |const v=>
  obtain⟨h1,h2⟩:=NH (show frcV (jC v) _ none=some y from h)
  cases h2
  exact⟨fun u eq=>by cases eq;exact⟨rfl,h1⟩,fun d n f eq=>by cases eq⟩
 |global g=>cases h
 |func f=>cases h;exact⟨fun u eq=>by cases eq;exact⟨rfl,by simp⟩,fun d n f eq=>by cases eq⟩
theorem qL{x:Operand}{g:GV α}(h:gv loc D m x=some g)(hi:Inv loc D m fr e' e):g.f fr e'=qa e x:=by
 unfold gv at h
 split at h
 ·rename_i v hs;cases h;exact((wE hs hi).1 v rfl).1.symm
 ·rename_i d n f hs;cases h;exact((wE hs hi).2 d n f rfl).1
 ·cases h
theorem QK{x:Operand}{g:GV α}(h:gvD loc D m x=some g)(hi:Inv loc D m fr e' e):g.f fr e'=qa e x∧qa e x≠ .und:=by
 unfold gvD at h
 split at h
 ·rename_i v hs;cases h
  have:=(wE hs hi).1 v rfl
  exact⟨this.1.symm,by rw[this.1];exact this.2⟩
 ·rename_i n f hs;cases h
  have:=(wE hs hi).2 true n f rfl
  exact⟨this.1,this.2.1 rfl⟩
 ·cases h
theorem AX: ∀{xs:List Operand}{l:VL α},gvs loc D m xs=some l→Inv loc D m fr e' e→l.f fr e'=evs e xs
 |[],l,h,hi=>by cases h;rfl
 |x::r,l,h,hi=>by
  unfold gvs at h
  split at h
  ·rename_i g l' h1 h2
   cases h
   show g fr e'::l' fr e'=qa e x::evs e r
   rw[←qL h1 hi,←AX h2 hi]
  ·cases h
theorem CS: ∀{xs:List Operand}{l:CD α}{z:RO},dfs loc D m xs=some l→Inv loc D m fr e' e→l.f fr e' z= .ok v2 s2→(∀x∈xs,qa e x≠ .und)∧z= .ok v2 s2
 |[],l,z,h,hi,hz=>by cases h;exact⟨fun x hx=>(by simp at hx),hz⟩
 |x::r,l,z,h,hi,hz=>by
  unfold dfs at h
  split at h
  ·rename_i v hs
   obtain⟨h1,h2⟩:=CS h hi hz
   have:=(wE hs hi).1 v rfl
   exact⟨fun y hy=>by rcases q1i.1 hy with rfl|hy;(rw[this.1];exact this.2);exact h1 y hy,h2⟩
  ·rename_i n f hs
   obtain⟨h1,h2⟩:=CS h hi hz
   have:=(wE hs hi).2 true n f rfl
   exact⟨fun y hy=>by rcases q1i.1 hy with rfl|hy;exact this.2.1 rfl;exact h1 y hy,h2⟩
  ·rename_i n f l' hs hl
   cases h
   obtain⟨h3,h4⟩:=Ut (show qD (f fr e') (l' fr e' z)= .ok v2 s2 from hz)
   obtain⟨h1,h2⟩:=CS hl hi h4
   have:=(wE hs hi).2 false n f rfl
   exact⟨fun y hy=>by rcases q1i.1 hy with rfl|hy;(rw[←this.1];exact h3);exact h1 y hy,h2⟩
  ·cases h
theorem Ww{r:KR}(h:Vl r)(hr:r.res≠ .und):r= .val r.res []:=by
 rcases h with rfl|⟨v,rfl⟩
 ·exact absurd rfl hr
 ·rfl
theorem Ts{v:V}(h:v≠ .und):retV v= .val v []:=by cases v<;>first|rfl|exact absurd rfl h
def Told(P:Program)(e:q9)(s:S)(op:Op)(K:V→RO)(v2:V)(s2:S):Prop:= ∃v,v≠ .und∧(∀rc,vq rc P e s op= .ok v s)∧K v= .ok v2 s2
theorem told{s:S}{op:Op}{K:V→RO}{v:V}(hv:v≠ .und){ks:List (Key×KB)}(h: ∀rc,vq rc P e s op=ap s (kop P e s.m s.nx op))(hk:kop P e s.m s.nx op= .val v ks)(hK:K v= .ok v2 s2):Told P e s op K v2 s2:=
 ⟨v,hv,fun rc=>by rw[h rc,hk];rfl,hK⟩
theorem vR{s:S}{op:Op}{K:V→RO}{r:KR}(h: ∀rc,vq rc P e s op=ap s (kop P e s.m s.nx op))(hk:kop P e s.m s.nx op=r)(hr:Vl r)(hK:qF r.res K= .ok v2 s2):Told P e s op K v2 s2:=by
 obtain⟨h1,h2⟩:=AN hK
 exact told h1 h (hk.trans (Ww hr h1)) h2
theorem O9: ∀(i:Nat){l:List V}{K:V→RO},(nthC i).f l K= .ok v2 s2→ ∃v,l[i]?=some v∧v≠ .und∧K v= .ok v2 s2
 |0,[],K,h=>by cases h
 |0,v::l,K,h=>⟨v,rfl,AN h⟩
 |i+1,[],K,h=>by
  unfold nthC at h
  revert h;generalize nthC i=q;obtain⟨g⟩:=q;intro h;cases h
 |i+1,v::l,K,h=>by
  have:(nthC i).f l K= .ok v2 s2:=by
   unfold nthC at h
   revert h;generalize nthC i=q;obtain⟨g⟩:=q;intro h;exact h
  exact O9 i this
theorem SD{op:Op}{h:VC α}{s:S}{K:V→RO}(hc:Pa P loc D m op=some h)(hi:Inv loc D m fr e' e)(hv:h.f fr e' s K= .ok v2 s2):Told P e s op K v2 s2:=by
 have hc:jX P loc D m op=some h:=by
  have:Pa P loc D m op=Lc.1 P loc D m op:=rfl
  rw[this,Lc.2]at hc;exact hc
 cases op with
 |load t x=>
  unfold jX at hc
  simp only at hc
  split at hc
  ·rename_i g sz hg hs
   cases hc
   have hg:=qL hg hi
   obtain⟨u,ks,h1,h2,h3⟩:=Fy (K:=K) (part:=fun v o=>ldA v sz o K (qF (ldS true sz v o []).res K)) hs (fun v o ks h=>LI ks h) hv
   exact told h1 (fun rc=>rfl) (by show j4 P s.m t (qa e x)=_;rw[←hg];exact h3) h2
  ·rename_i g hg hs
   cases hc
   have hg:=qL hg hi
   obtain⟨u,ks,h1,h2,h3⟩:=Fy (K:=K) (part:=fun v o=>ld1 v o K) hs (fun v o ks h=>LH ks h) hv
   exact told h1 (fun rc=>rfl) (by show j4 P s.m t (qa e x)=_;rw[←hg];exact h3) h2
  ·cases hc
 |binOp op t x y yt=>
  unfold jX at hc
  simp only at hc
  split at hc
  ·rename_i gx sy hgx hsy
   have hx:=qL hgx hi
   cases hsh:isSh op with
   |true=>
    rw[hsh,cond_true]at hc
    split at hc
    ·rename_i gy hgy
     cases hc
     have hy:=qL hgy hi
     exact vR (fun rc=>rfl) (by show kBin P op t (qa e x) (qa e y)=_;rw[←hx,←hy]) Dh hv
    ·cases hc
   |false=>
    rw[hsh,cond_false]at hc
    have hnn: ∀{k k':IntKind}{a b:Nat},keqF k k'=true→(binH op).f k a b K= .ok v2 s2→qa e x= .nn k a→qa e y= .nn k' b→Told P e s (.binOp op t x y yt) K v2 s2:=by
     intro k k' a b hk hb ex ey
     obtain⟨h1,h2⟩:=UO hb
     refine told h1 (fun rc=>rfl) (ks:=[]) ?_ h2
     show kBin P op t (qa e x) (qa e y)=_
     rw[ex,ey]
     rw[NS]at hk
     show @Bool.rec (fun _=>KR) (@Bool.rec (fun _=>KR) .bad (retV (binN op k a b)) (keq k k')) (retV (shN op k a b)) (isSh op)=_
     rw[hsh,hk];exact Ts h1
    generalize hbh:binH op=bh at hc hnn
    obtain⟨hf⟩:=bh
    cases sy with
    |c u=>
     have hy:=((wE hsy hi).1 u rfl).1
     have gen:some (⟨fun fr e _ K=>qF (kBin P op t (gx fr e) u).res K⟩:VC α)=some h→Told P e s (.binOp op t x y yt) K v2 s2:=by
      intro hc
      cases hc
      exact vR (fun rc=>rfl) (by show kBin P op t (qa e x) (qa e y)=_;rw[hy,←hx]) Dh hv
     cases u with
     |nn kc c=>
      cases hc
      rcases HZ hv with⟨k,a,ex,h⟩|⟨hn,h⟩
      ·obtain⟨hk,h⟩:=ve h
       exact hnn hk h (by rw[←hx];exact ex) hy
      ·exact vR (fun rc=>rfl) (by show kBin P op t (qa e x) (qa e y)=_;rw[hy,←hx]) Dh h
     |_=>exact gen hc
    |dead=>cases hc
    |g d n gy=>
     have hy:=((wE hsy hi).2 d n gy rfl).1
     cases hc
     rcases HZ hv with⟨k,a,ex,h⟩|⟨hn,h⟩
     ·rcases HZ h with⟨k',b,ey,h⟩|⟨hn,h⟩
      ·obtain⟨hk,h⟩:=ve h
       exact hnn hk h (by rw[←hx];exact ex) (by rw[←hy];exact ey)
      ·have ex:qa e x= .nn k a:=by rw[←hx];exact ex
       exact vR (fun rc=>rfl) (by show kBin P op t (qa e x) (qa e y)=_;rw[←hy,ex]) Dh h
     ·exact vR (fun rc=>rfl) (by show kBin P op t (qa e x) (qa e y)=_;rw[←hy,←hx]) Dh h
  ·cases hc
 |fieldAddr st x f=>
  unfold jX at hc
  simp only at hc
  split at hc
  ·rename_i g ft sz hg hf
   have hx:g fr e'=qa e x:=qL hg hi
   cases hz:Nat.beq sz 0 with
   |true=>rw[hz]at hc;cases hc
   |false=>
    rw[hz,cond_false]at hc;cases hc
    rcases DX hv with⟨k,o,ex,h⟩|⟨k,i,o,w,ex,h⟩
    ·refine told (by simp) (fun rc=>rfl) (ks:=[]) ?_ h
     show jK P st f (qa e x)=_
     rw[←hx,ex];simp only[jK,hf,hz];rfl
    ·refine told (by simp) (fun rc=>rfl) (ks:=[]) ?_ h
     show jK P st f (qa e x)=_
     rw[←hx,ex];simp only[jK,hf,hz];rfl
  ·rename_i g fo ft sz hne hg hf
   have hx:g fr e'=qa e x:=qL hg hi
   cases hz:Nat.beq sz 0 with
   |true=>rw[hz]at hc;cases hc
   |false=>
    rw[hz,cond_false]at hc;cases hc
    rcases DX hv with⟨k,o,ex,h⟩|⟨k,i,o,w,ex,h⟩
    ·refine told (by simp) (fun rc=>rfl) (ks:=[]) ?_ h
     show jK P st f (qa e x)=_
     rw[←hx,ex];simp only[jK,hf,hz];rfl
    ·refine told (by simp) (fun rc=>rfl) (ks:=[]) ?_ h
     show jK P st f (qa e x)=_
     rw[←hx,ex];simp only[jK,hf,hz];rfl
  ·cases hc
 |indexAddr t x y=>
  unfold jX at hc
  simp only at hc
  split at hc
  ·rename_i gx gy hgx hgy
   have hx:gx fr e'=qa e x:=qL hgx hi
   have hy:gy fr e'=qa e y:=qL hgy hi
   split at hc
   ·rename_i n sz ha
    cases hc
    obtain⟨kk,j,ey,h⟩:=Uu hv
    rcases DX h with⟨k,o,ex,h⟩|⟨k,q,o,w,ex,h⟩<;>obtain⟨hb,h⟩:=ve h
    ·refine told (by simp) (fun rc=>rfl) (ks:=[]) ?_ h
     show jL P t (qa e x) (qa e y)=_
     rw[←hx,ex,←hy,ey];simp only[jL,ha,hb];rfl
    ·refine told (by simp) (fun rc=>rfl) (ks:=[]) ?_ h
     show jL P t (qa e x) (qa e y)=_
     rw[←hx,ex,←hy,ey];simp only[jL,ha,hb];rfl
   ·split at hc
    ·rename_i es ha
     cases hc
     obtain⟨kk,j,ey,h⟩:=Uu hv
     rcases Uv h with⟨k,lo,n,c,w,ex,h⟩|⟨k,lo,n,w,ex,h⟩|h
     ·obtain⟨hb,h⟩:=ve h
      rw[jp]at hb
      refine told (by simp) (fun rc=>rfl) (ks:=[]) ?_ h
      show jL P t (qa e x) (qa e y)=_
      rw[←hx,ex,←hy,ey];simp only[jL,ha];rw[hb.1,hb.2];rfl
     ·obtain⟨hb,h⟩:=ve h
      rw[jp]at hb
      refine told (by simp) (fun rc=>rfl) (ks:=[]) ?_ h
      show jL P t (qa e x) (qa e y)=_
      rw[←hx,ex,←hy,ey];simp only[jL,ha];rw[hb.1,hb.2];rfl
     ·cases h
    ·cases hc
  ·cases hc
 |nilCheck x=>
  unfold jX at hc
  simp only at hc
  split at hc
  ·rename_i g hg
   cases hc
   have hx:g fr e'=qa e x:=qL hg hi
   rcases DX hv with⟨k,o,ex,h⟩|⟨k,i,o,w,ex,h⟩
   ·exact told (by simp) (fun rc=>rfl) (ks:=[]) (by show zV (qa e x)=_;rw[←hx,ex];rfl) h
   ·exact told (by simp) (fun rc=>rfl) (ks:=[]) (by show zV (qa e x)=_;rw[←hx,ex];rfl) h
  ·cases hc
 |unOp o t x=>
  have gen: ∀{g:GV α},gv loc D m x=some g→some (⟨fun fr e _ K=>qF (kUn P o (g.f fr e)).res K⟩:VC α)=some h→Told P e s (.unOp o t x) K v2 s2:=by
   intro g hg hc
   cases hc
   exact vR (fun rc=>rfl) (by show kUn P o (qa e x)=_;rw[←qL hg hi]) (UF (P:=P)) hv
  unfold jX at hc
  cases o with
  |not=>
   simp only at hc
   split at hc
   ·rename_i g hg
    cases hc
    have hx:g fr e'=qa e x:=qL hg hi
    obtain⟨b,ex,h⟩:=PO hv
    exact told (by simp) (fun rc=>rfl) (ks:=[]) (by show kUn P .not (qa e x)=_;rw[←hx,ex,IQ];rfl) h
   ·cases hc
  |_=>
   simp only at hc
   split at hc
   ·rename_i g hg;exact gen hg hc
   ·cases hc
 |pick c x y=>
  unfold jX at hc
  simp only at hc
  split at hc
  ·rename_i gx gy gc hgx hgy hgc
   cases hc
   obtain⟨hx,nx⟩:=QK hgx hi
   obtain⟨hy,ny⟩:=QK hgy hi
   have hx:gx fr e'=qa e x:=hx
   have hy:gy fr e'=qa e y:=hy
   have hcc:gc fr e'=qa e c:=qL hgc hi
   obtain⟨b,ec,h⟩:=PO hv
   have hk:Ce (qa e c) (qa e x) (qa e y)= .val (@Bool.rec (fun _=>V) (qa e y) (qa e x) b) []:=by
    rw[←hcc,ec]
    show @Bool.rec (fun _=>KR) _ _ (isU (qa e x)||isU (qa e y))=_
    have ux:isU (qa e x)=false:=by cases hq:qa e x<;>first|rfl|exact absurd hq nx
    have uy:isU (qa e y)=false:=by cases hq:qa e y<;>first|rfl|exact absurd hq ny
    rw[ux,uy];rfl
   cases b with
   |true=>rw[hx]at h;exact told nx (fun rc=>rfl) hk h
   |false=>rw[hy]at h;exact told ny (fun rc=>rfl) hk h
  ·split at hc
   ·rename_i gx gy gc hgx hgy hgc
    cases hc
    have hx:gx fr e'=qa e x:=qL hgx hi
    have hy:gy fr e'=qa e y:=qL hgy hi
    have hcc:gc fr e'=qa e c:=qL hgc hi
    exact vR (fun rc=>rfl) (by show Ce (qa e c) (qa e x) (qa e y)=_;rw[←hx,←hy,←hcc]) ON hv
   ·cases hc
 |convert st t x=>
  unfold jX at hc
  simp only at hc
  split at hc
  ·rename_i g k us hg hk hs
   cases hc
   have hx:g fr e'=qa e x:=qL hg hi
   have hkc:zF P s.m st t (qa e x)=Cd P st t (qa e x):=by unfold zF;rw[hk]
   rcases HZ hv with⟨kk,n,ex,h⟩|⟨hn,h⟩
   ·have h:=HE h
    refine told (by have:=(BU [] k n).1;intro e0;rw[e0]at this;cases this) (fun rc=>rfl) (ks:=[]) ?_ h
    show zF P s.m st t (qa e x)=_
    rw[hkc,←hx,ex]
    simp only[Cd,hk,hs];rfl
   ·exact vR (fun rc=>rfl) (by show zF P s.m st t (qa e x)=_;rw[hkc,←hx]) J5 h
  ·cases hc
 |extract x i=>
  unfold jX at hc
  simp only at hc
  have hc2: ∀(q:NT),q=nthC i→(match gv loc D m x,q with|some ⟨x⟩,⟨g⟩=>some (⟨fun fr e _ K=>qT (x fr e) fun l=>g l K⟩:VC α)|none,_=>none)=some h→Told P e s (.extract x i) K v2 s2:=by
   intro q hq hc
   obtain⟨g⟩:=q
   cases hgx:gv loc D m x with
   |none=>rw[hgx]at hc;cases hc
   |some gx=>
    obtain⟨gx⟩:=gx
    rw[hgx]at hc
    cases hc
    have hx:gx fr e'=qa e x:=qL hgx hi
    obtain⟨l,ex,h⟩:=q0r hv
    have h:(nthC i).f l K= .ok v2 s2:=by rw[←hq];exact h
    obtain⟨v,h1,h2,h3⟩:=O9 i h
    refine told h2 (fun rc=>rfl) (ks:=[]) ?_ h3
    show wN (qa e x) i=_
    rw[←hx,ex]
    simp only[wN,nth,h1]
  exact hc2 _ rfl hc
 |field st x f=>
  unfold jX at hc
  simp only at hc
  split at hc
  ·rename_i g hg
   cases hc
   have hx:g fr e'=qa e x:=qL hg hi
   exact vR (fun rc=>rfl) (by show BR P st f (qa e x)=_;rw[←hx]) MB hv
  ·cases hc
 |index t x y=>
  unfold jX at hc
  simp only at hc
  split at hc
  ·rename_i gx gy hgx hgy
   cases hc
   have hx:gx fr e'=qa e x:=qL hgx hi
   have hy:gy fr e'=qa e y:=qL hgy hi
   exact vR (fun rc=>rfl) (by show BS P t (qa e x) (qa e y)=_;rw[←hx,←hy]) MD hv
  ·cases hc
 |build t ps=>
  unfold jX at hc
  simp only at hc
  split at hc
  ·rename_i l hl
   cases hc
   have hx:l fr e'=evs e (ps.toList.map (·.2)):=AX hl hi
   exact vR (fun rc=>rfl) (by show BQ P t _ (evs e (ps.toList.map (·.2)))=_;rw[←hx]) MA hv
  ·cases hc
 |makeFunc fn fs cs=>
  unfold jX at hc
  simp only at hc
  split at hc
  ·rename_i l hl
   cases hc
   have hx:l fr e'=evs e cs.toList:=AX hl hi
   exact vR (fun rc=>rfl) (by show AJ fn fs (evs e cs.toList)=_;rw[←hx]) OL hv
  ·cases hc
 |slice t x lo hi' mx=>
  cases mx with
  |some z=>unfold jX at hc;cases hc
  |none=>
   unfold jX at hc
   simp only at hc
   split at hc
   ·rename_i g hg
    have hx:g fr e'=qa e x:=qL hg hi
    cases lo with
    |none=>cases hi' with
     |none=>
      cases hc
      exact vR (fun rc=>rfl) (by show zf P t (qa e x) none none=_;rw[←hx]) C2 hv
     |some r=>
      simp only at hc
      split at hc
      ·rename_i gl hgl
       cases hc
       have hl:gl fr e'=qa e r:=qL hgl hi
       exact vR (fun rc=>rfl) (by show zf P t (qa e x) none (some (qa e r))=_;rw[←hx,←hl]) C2 hv
      ·cases hc
    |some l=>cases hi' with
     |none=>
      simp only at hc
      split at hc
      ·rename_i gl hgl
       cases hc
       have hl:gl fr e'=qa e l:=qL hgl hi
       exact vR (fun rc=>rfl) (by show zf P t (qa e x) (some (qa e l)) none=_;rw[←hx,←hl]) C2 hv
      ·cases hc
     |some r=>
      simp only at hc
      split at hc
      ·rename_i gl gr hgl hgr
       cases hc
       have hl:gl fr e'=qa e l:=qL hgl hi
       have hr:gr fr e'=qa e r:=qL hgr hi
       exact vR (fun rc=>rfl) (by show zf P t (qa e x) (some (qa e l)) (some (qa e r))=_;rw[←hx,←hl,←hr]) C2 hv
      ·cases hc
   ·cases hc
 |call c=>
  obtain⟨cl,xs,ts⟩:=c
  unfold jX at hc
  cases cl with
  |builtin b=>
   cases b with
   |len=>
    simp only at hc
    split at hc
    ·rename_i x t hxs hts
     have hop: ∀rc,vq rc P e s (.call {callee:= .builtin .len,args:=xs,argTypes:=ts})=ap s (kop P e s.m s.nx (.call {callee:= .builtin .len,args:=xs,argTypes:=ts})):=fun rc=>rfl
     have hk:kop P e s.m s.nx (.call {callee:= .builtin .len,args:=xs,argTypes:=ts})=kLen P t (qa e x):=by
      show vM P .len ts.toList (evs e xs.toList) s.m s.nx=_
      rw[hxs,hts];rfl
     split at hc
     ·rename_i g hg
      have hx:g fr e'=qa e x:=qL hg hi
      cases hsl:jo P t with
      |true=>
       rw[hsl,cond_true]at hc
       cases hc
       rcases Uv hv with⟨k,lo,n,c,w,ex,h⟩|⟨k,lo,n,w,ex,h⟩|h
       ·exact told (by simp) hop (ks:=[]) (by rw[hk,←hx,ex];simp only[kLen,hsl]) h
       ·exact told (by simp) hop (ks:=[]) (by rw[hk,←hx,ex];simp only[kLen,hsl]) h
       ·exact vR hop (by rw[hk,←hx]) MG h
      |false=>
       rw[hsl,cond_false]at hc
       cases hc
       exact vR hop (by rw[hk,←hx]) MG hv
     ·cases hc
    ·cases hc
   |_=>cases hc
  |_=>cases hc
 |_=>unfold jX at hc;cases hc
end
end
noncomputable section
structure RcLe (pr:vw) (call:FuncId→Row→Nat→S→RO) (rc:FuncId→List V→S→RO):Prop where
 code: ∀f w n s v s',call f w n s= .ok v s'→n≤16∧((j9 (rowL w n)).c0=w→(∀x∈rowL w n,x≠ .und)→v≠ .und∧rc f (rowL w n) s= .ok v s')
 prim: ∀f g,pr f=some g→ ∀vs s v s',g vs s= .ok v s'→rc f vs s= .ok v s'
section
variable {v2:V} {s2:S} {α γ:Type} {P:Program} {pr:vw} {rg:RG γ} {loc D:Nat} {m:Mp α} {fr:α} {e' e:q9} {c:γ} {rc:FuncId→List V→S→RO}
theorem GF: ∀{l:List V},l.length≤16→rowL (j9 l).c0 l.length=l:=by
 intro l hl
 apply List.ext_getElem?
 intro i
 unfold rowL
 by_cases hi:i<l.length
 ·rw[q18 hi]
  have hn: ∀j,(h:j<l.length)→l[j]?=some (nthV l j):=fun j h=>by unfold nthV;rw[q12,q16 h];rfl
  rw[hn i hi]
  have hi16:i<16:=by omega
  match i,hi16 with
  |0,_=>rfl
  |1,_=>rfl
  |2,_=>rfl
  |3,_=>rfl
  |4,_=>rfl
  |5,_=>rfl
  |6,_=>rfl
  |7,_=>rfl
  |8,_=>rfl
  |9,_=>rfl
  |10,_=>rfl
  |11,_=>rfl
  |12,_=>rfl
  |13,_=>rfl
  |14,_=>rfl
  |15,_=>rfl
  |k+16,h=>omega
 ·rw[q17 (by rw[q1f];omega),q17 (by omega)]
theorem Tx{xs:List Operand}{w:RW α}(h:FL loc D m xs=some w)(hi:Inv loc D m fr e' e)(hn:xs.length≤16):rowL (w.f fr e') xs.length=evs e xs∧(j9 (rowL (w.f fr e') xs.length)).c0=w.f fr e':=by
 match xs,h,hn with
 |[],h,_=>cases h;exact⟨rfl,rfl⟩
 |[a],h,_=>
  unfold FL at h
  simp only at h
  split at h
  ·rename_i ga hga
   cases h
   have ha:ga fr e'=qa e a:=qL hga hi
   refine⟨?_,rfl⟩
   show[ga fr e']=[qa e a]
   rw[ha]
  ·cases h
 |[a,b],h,_=>
  unfold FL at h
  simp only at h
  split at h
  ·rename_i ga gb hga hgb
   cases h
   have ha:ga fr e'=qa e a:=qL hga hi
   have hb:gb fr e'=qa e b:=qL hgb hi
   refine⟨?_,rfl⟩
   show[ga fr e',gb fr e']=[qa e a,qa e b]
   rw[ha,hb]
  ·cases h
 |[a,b,d],h,_=>
  unfold FL at h
  simp only at h
  split at h
  ·rename_i ga gb gd hga hgb hgd
   cases h
   have ha:ga fr e'=qa e a:=qL hga hi
   have hb:gb fr e'=qa e b:=qL hgb hi
   have hd:gd fr e'=qa e d:=qL hgd hi
   refine⟨?_,rfl⟩
   show[ga fr e',gb fr e',gd fr e']=[qa e a,qa e b,qa e d]
   rw[ha,hb,hd]
  ·cases h
 |a::b::d::f::xr,h,hn=>
  unfold FL at h
  simp only at h
  split at h
  ·rename_i l hl
   cases h
   have hx:l fr e'=evs e (a::b::d::f::xr):=AX hl hi
   have hlen:(evs e (a::b::d::f::xr)).length=(a::b::d::f::xr).length:=by simp[evs]
   show rowL (j9 (l fr e')).c0 _=_∧(j9 (rowL (j9 (l fr e')).c0 _)).c0=(j9 (l fr e')).c0
   rw[hx,←hlen]
   have:=GF (l:=evs e (a::b::d::f::xr)) (by rw[hlen];exact hn)
   exact⟨this,by rw[this]⟩
  ·cases h
theorem Eo{xs:List Operand}(h: ∀x∈xs,qa e x≠ .und):A6 (evs e xs)=true:=by
 unfold A6 evs
 rw[List.all_eq_true]
 intro v hv
 obtain⟨x,hx,rfl⟩:=List.mem_map.1 hv
 have:=h x hx
 cases hq:qa e x<;>first|rfl|exact absurd hq this
theorem Jh{l:List V}(h:A6 l=true): ∀v∈l,v≠ .und:=fun v hv e=>by
 unfold A6 at h
 have:=List.all_eq_true.1 h v hv
 rw[e]at this;cases this
theorem SB{op:Op}{h:HK α}{s:S}(hc:AG P loc D m op=some h)(hi:Inv loc D m fr e' e)(rc:FuncId→List V→S→RO):vq rc P e s op=ap s (h.f fr e' s):=by
 cases op with
 |buildSlice t n ps=>
  unfold AG at hc
  simp only at hc
  split at hc
  ·rename_i l hl
   cases hc
   have hx:l fr e'=evs e (ps.toList.map (·.2)):=AX hl hi
   show ap s (vD P t n _ (evs e (ps.toList.map (·.2))) s.nx)=ap s (vD P t n _ (l fr e') s.nx)
   rw[hx]
  ·cases hc
 |makeSlice t x y=>
  unfold AG at hc
  simp only at hc
  split at hc
  ·rename_i gx gy hgx hgy
   cases hc
   have hx:gx fr e'=qa e x:=qL hgx hi
   have hy:gy fr e'=qa e y:=qL hgy hi
   show ap s (z0 P t (qa e x) (qa e y) s.nx)=ap s (z0 P t (gx fr e') (gy fr e') s.nx)
   rw[hx,hy]
  ·cases hc
 |makeMap t r=>
  cases r with
  |none=>cases hc;rfl
  |some z=>cases hc
 |lookup t x y b=>
  unfold AG at hc
  simp only at hc
  split at hc
  ·rename_i gx gy hgx hgy
   cases hc
   have hx:gx fr e'=qa e x:=qL hgx hi
   have hy:gy fr e'=qa e y:=qL hgy hi
   show ap s (By P s.m t b (qa e x) (qa e y))=ap s (By P s.m t b (gx fr e') (gy fr e'))
   rw[hx,hy]
  ·cases hc
 |mapUpdate t x y z=>
  unfold AG at hc
  simp only at hc
  split at hc
  ·rename_i gx gy gz hgx hgy hgz
   cases hc
   have hx:gx fr e'=qa e x:=qL hgx hi
   have hy:gy fr e'=qa e y:=qL hgy hi
   have hz:gz fr e'=qa e z:=qL hgz hi
   show ap s (CX P s.m t (qa e x) (qa e y) (qa e z))=ap s (CX P s.m t (gx fr e') (gy fr e') (gz fr e'))
   rw[hx,hy,hz]
  ·cases hc
 |convert st t x=>
  unfold AG at hc
  simp only at hc
  split at hc
  ·rename_i gx hgx
   cases hc
   have hx:gx fr e'=qa e x:=qL hgx hi
   show ap s (zF P s.m st t (qa e x))=ap s (zF P s.m st t (gx fr e'))
   rw[hx]
  ·cases hc
 |call cc=>
  obtain⟨cl,xs,ts⟩:=cc
  unfold AG at hc
  cases cl with
  |builtin b=>
   simp only at hc
   split at hc
   ·rename_i l hl
    have hx:l fr e'=evs e xs.toList:=AX hl hi
    have gen:some (⟨fun fr e s=>vM P b ts.toList (l fr e) s.m s.nx⟩:HK α)=some h→vq rc P e s (.call {callee:= .builtin b,args:=xs,argTypes:=ts})=ap s (h.f fr e' s):=by
     intro hc
     cases hc
     show ap s (vM P b ts.toList (evs e xs.toList) s.m s.nx)=ap s (vM P b ts.toList (l fr e') s.m s.nx)
     rw[hx]
    cases b with
    |append=>
     simp only at hc
     split at hc
     ·rename_i t u x y hts hxs
      split at hc
      ·rename_i gx gy hgx hgy
       cases hc
       have hx:gx fr e'=qa e x:=qL hgx hi
       have hy:gy fr e'=qa e y:=qL hgy hi
       show ap s (vM P .append ts.toList (evs e xs.toList) s.m s.nx)=ap s (CW P t u s.m (gx fr e') (gy fr e') s.nx)
       rw[hts,hxs,hx,hy];rfl
      ·cases hc
     ·cases hc
    |_=>exact gen hc
   ·cases hc
  |_=>cases hc
 |_=>unfold AG at hc;cases hc
theorem La{op:Op}{h:OC γ α}{s:S}{K:V→S→RO}(hr:RcLe pr (rg.f c) rc)(hc:Ki P pr rg loc D m op=some h)(hi:Inv loc D m fr e' e)(hv:h.f c fr e' s K= .ok v2 s2):
  ∃v s1,v≠ .und∧vq rc P e s op= .ok v s1∧K v s1= .ok v2 s2:=by
 have hc:Hc P pr rg loc D m op=some h:=by
  have:Ki P pr rg loc D m op=L9.1 P pr rg loc D m op:=rfl
  rw[this,L9.2]at hc;exact hc
 have other:(match AG P loc D m op with|some ⟨h⟩=>some (⟨fun _ fr e s K=>roK (ap s (h fr e s)) fun v s=>qF v fun v=>K v s⟩:OC γ α)|none=>none)=some h→ ∃v s1,v≠ .und∧vq rc P e s op= .ok v s1∧K v s1= .ok v2 s2:=by
  intro hc
  split at hc
  ·rename_i g hg
   cases hc
   obtain⟨v,s1,h1,h2⟩:=EZ hv
   obtain⟨h3,h4⟩:=AN h2
   exact⟨v,s1,h3,by rw[SB hg hi rc];exact h1,h4⟩
  ·cases hc
 unfold Hc at hc
 cases op with
 |store t x y=>
  simp only at hc
  split at hc
  ·rename_i gx gy g sz hgx hgy hs
   cases hc
   have hx:gx fr e'=qa e x:=qL hgx hi
   have hy:gy fr e'=qa e y:=qL hgy hi
   obtain⟨s1,h1,h2⟩:=RY (p:=gx fr e') (x:=gy fr e') hs hv
   rw[hx,hy]at h1
   exact⟨_,s1,by simp,h1,h2⟩
  ·cases hc
 |alloc t=>
  simp only at hc
  obtain⟨h1,h2⟩:=NH hc
  cases h2
  obtain⟨s1,h3,h4⟩:=O7 hv
  refine⟨_,s1,by simp,?_,h4⟩
  show ap s (BP P t s.nx)=_
  unfold BP
  have:isU (vS P t)=false:=by cases hq:vS P t<;>first|rfl|exact absurd hq h1
  rw[this];exact h3
 |box t x=>
  simp only at hc
  split at hc
  ·rename_i g hg
   cases hc
   have hx:g fr e'=qa e x:=qL hg hi
   obtain⟨h1,h2⟩:=PP hv
   obtain⟨s1,h3,h4⟩:=O7 h2
   rw[hx]at h1 h3
   refine⟨_,s1,by simp,?_,h4⟩
   show ap s (kBox s.nx (qa e x))=_
   unfold kBox
   rw[h1];exact h3
  ·cases hc
 |call cc=>
  obtain⟨cl,xs,ts⟩:=cc
  cases cl with
  |builtin b=>exact other hc
  |value f=>
   clear other
   obtain⟨r0⟩:=rg
   have dyn: ∀{gf:GV α}{l:VL α}{d:CD α}{r:γ→FuncId→Row→Nat→S→RO},gv loc D m f=some gf→gvs loc D m xs.toList=some l→dfs loc D m xs.toList=some d→r0=r→
     (@Option.rec (FuncId×List (Key×Nat)) (fun _=>RO) (.no [4]) (fun p=>d.f fr e' (roK ((fun vs=>r c p.1 (j9 vs).c0 vs.length s) (l.f fr e'++p.2.map fun p=> .pp p.1 p.2)) K)) (vJ (gf.f fr e'))= .ok v2 s2)→
     ∃v s1,v≠ .und∧vq rc P e s (.call {callee:= .value f,args:=xs,argTypes:=ts})= .ok v s1∧K v s1= .ok v2 s2:=by
    intro gf l d r hgf hl hd hrg hv
    have hf:=qL hgf hi
    have hx:=AX hl hi
    cases hcal:vJ (gf.f fr e')with
    |none=>rw[hcal]at hv;cases hv
    |some p=>
     rw[hcal]at hv
     obtain⟨g,ps⟩:=p
     obtain⟨h1,h2⟩:=CS hd hi hv
     obtain⟨v,s1,h3,h4⟩:=EZ h2
     subst hrg
     obtain⟨h5,h7⟩:=hr.code _ _ _ _ _ _ h3
     rw[hx]at h5 h7
     have hao:=Eo h1
     rw[GF h5]at h7
     obtain⟨h6,h7⟩:=h7 rfl fun x hx=>by
      rcases q1h.1 hx with hx|hx
      ·exact Jh hao x hx
      ·obtain⟨q,_,rfl⟩:=List.mem_map.1 hx;simp
     refine⟨v,s1,h6,?_,h4⟩
     show kcall rc s (vJ (qa e f)) (evs e xs.toList)=_
     rw[←hf,hcal]
     show @Bool.rec (fun _=>RO) _ _ (A6 (evs e xs.toList))=_
     rw[hao]
     exact h7
   cases f with
   |func g=>
    simp only at hc
    have hcal:vJ (qa e (.func g))=some (g,[]):=rfl
    split at hc
    ·rename_i h0 hp
     split at hc
     ·rename_i l d hl hd
      cases hc
      have hx:l fr e'=evs e xs.toList:=AX hl hi
      obtain⟨h1,h2⟩:=CS hd hi hv
      obtain⟨v,s1,h3,h4⟩:=EZ h2
      obtain⟨h5,h6⟩:=AN h4
      refine⟨v,s1,h5,?_,h6⟩
      show kcall rc s (vJ (qa e (.func g))) (evs e xs.toList)=_
      rw[hcal]
      show @Bool.rec (fun _=>RO) _ (rc g (evs e xs.toList++[]) s) (A6 (evs e xs.toList))=_
      rw[Eo h1,List.append_nil]
      rw[hx]at h3
      exact hr.prim g h0 hp _ _ _ _ h3
     ·cases hc
    ·split at hc
     ·rename_i w d r hw hd hrg
      cases hrg
      cases hc
      obtain⟨h1,h2⟩:=CS hd hi hv
      obtain⟨v,s1,h3,h4⟩:=EZ h2
      obtain⟨h5,h7⟩:=hr.code _ _ _ _ _ _ h3
      have hrow:rowL (w fr e') xs.size=evs e xs.toList∧(j9 (rowL (w fr e') xs.size)).c0=w fr e':=by
       have:=Tx hw hi (by simpa using h5)
       simpa using this
      have hao:=Eo h1
      obtain⟨h6,h7⟩:=h7 hrow.2 (by rw[hrow.1];exact Jh hao)
      rw[hrow.1]at h7
      refine⟨v,s1,h6,?_,h4⟩
      show kcall rc s (vJ (qa e (.func g))) (evs e xs.toList)=_
      rw[hcal]
      show @Bool.rec (fun _=>RO) _ (rc g (evs e xs.toList++[]) s) (A6 (evs e xs.toList))=_
      rw[hao,List.append_nil]
      exact h7
     ·cases hc
   |tmp t=>
    simp only at hc
    split at hc
    ·rename_i gf l d r hgf hl hd hrg
     cases hrg
     cases hc
     exact dyn hgf hl hd rfl hv
    ·cases hc
   |const t=>
    simp only at hc
    split at hc
    ·rename_i gf l d r hgf hl hd hrg
     cases hrg
     cases hc
     exact dyn hgf hl hd rfl hv
    ·cases hc
   |global t=>
    simp only at hc
    split at hc
    ·rename_i gf l d r hgf hl hd hrg
     cases hrg
     cases hc
     exact dyn hgf hl hd rfl hv
    ·cases hc
  |_=>exact other hc
 |_=>exact other hc
end
end
noncomputable section
section
variable {v2:V} {s2:S} {α γ:Type} {P:Program} {pr:vw} {rg:RG γ} {loc D:Nat} {m:Mp α} {fr:α} {e' e:q9} {c:γ} {rc:FuncId→List V→S→RO}
theorem Lm(t:Nat): ∀m:Mp α,v6 t (upM m)=(v6 t m).map Src.up
 |[]=>rfl
 |p::r=>by
  show(bif Nat.beq p.1 t then some p.2.up else v6 t (upM r))=Option.map Src.up (bif Nat.beq p.1 t then some p.2 else v6 t r)
  cases Nat.beq p.1 t with
  |true=>rfl
  |false=>exact Lm t r
theorem A8(t t':Nat)(x:Src α)(m:Mp α):v6 t ((t',x)::m)=bif Nat.beq t' t then some x else v6 t m:=rfl
theorem j8{t:Tmp}(ht:t<256)(v:V)(t':Nat):slot (ji e (some t) v) t'=if t'=t then v else slot e t':=BZ v ht t'
theorem SrcOk.up{t:Nat}{x:Src α}{v:V}(h:SrcOk loc fr e' e t x):SrcOk loc (⟨v,fr⟩:Fm α) e' e t x.up:=by
 cases x with
 |c u=>exact h
 |g d n f=>exact h
 |dead=>trivial
theorem SrcOk.env{t t0:Nat}{x:Src α}{v:V}{e1:q9}(he:slot e1 t=slot e t)(h:SrcOk loc fr e' e t x):SrcOk loc fr e' e1 t x:=by
 cases x with
 |c u=>exact⟨he.trans h.1,h.2⟩
 |g d n f=>exact⟨fun hd=>by rw[he];exact h.1 hd,fun e'' h1=>by rw[he];exact h.2.1 e'' h1,h.2.2⟩
 |dead=>trivial
theorem NO{t:Tmp}{v:V}(hi:Inv loc D m fr e' e)(ht:t<256)(hl:Nat.testBit loc t=true)(hv:v≠ .und):
  Inv loc D ((t,.g true 0 fun fr _=>fr.v)::upM m) (⟨v,fr⟩:Fm α) e' (ji e (some t) v):=by
 refine⟨fun t' h=>?_,fun t' x hx=>?_,fun t' h=>?_⟩
 ·rw[j8 ht]
  by_cases e:t'=t
  ·rw[e,hl]at h;cases h
  ·rw[if_neg e];exact hi.ag t' h
 ·rw[A8]at hx
  cases hb:Nat.beq t t' with
  |true=>
   rw[hb,cond_true]at hx
   have:=q1B hb
   subst this
   cases hx
   have e1:slot (ji e (some t) v) t=v:=by rw[j8 ht,if_pos rfl]
   exact⟨hl,fun _=>by rw[e1];exact hv,fun e'' _=>e1.symm,fun t' h=>by cases h⟩
  |false=>
   rw[hb,cond_false,Lm]at hx
   cases hf:v6 t' m with
   |none=>rw[hf]at hx;cases hx
   |some y=>
    rw[hf]at hx;cases hx
    obtain⟨h1,h2⟩:=hi.mp t' y hf
    have hne: ¬t'=t:=fun e=>by rw[e]at hb;simp at hb
    exact⟨h1,(h2.env (t0:=0) (v:=v) (by rw[j8 ht,if_neg hne])).up⟩
 ·rw[j8 ht]
  by_cases e:t'=t
  ·rw[if_pos e];exact hv
  ·rw[if_neg e];exact hi.df t' h
theorem ED{t:Tmp}{v:V}{x:Src α}(hi:Inv loc D m fr e' e)(ht:t<256)(hl:Nat.testBit loc t=true)(hv:v≠ .und)(hx:SrcOk loc fr e' (ji e (some t) v) t x):
  Inv loc D ((t,x)::m) fr e' (ji e (some t) v):=by
 refine⟨fun t' h=>?_,fun t' y hy=>?_,fun t' h=>?_⟩
 ·rw[j8 ht]
  by_cases e:t'=t
  ·rw[e,hl]at h;cases h
  ·rw[if_neg e];exact hi.ag t' h
 ·rw[A8]at hy
  cases hb:Nat.beq t t' with
  |true=>
   rw[hb,cond_true]at hy
   have:=q1B hb
   subst this
   cases hy
   exact⟨hl,hx⟩
  |false=>
   rw[hb,cond_false]at hy
   obtain⟨h1,h2⟩:=hi.mp t' y hy
   have hne: ¬t'=t:=fun e=>by rw[e]at hb;simp at hb
   exact⟨h1,h2.env (t0:=0) (v:=v) (by rw[j8 ht,if_neg hne])⟩
 ·rw[j8 ht]
  by_cases e:t'=t
  ·rw[if_pos e];exact hv
  ·rw[if_neg e];exact hi.df t' h
theorem Hl{t0 t:Nat}{x:Src α}: ∀{m:Mp α},v6 t (zb t0 m)=some x→x= .dead∨(v6 t m=some x∧ ∀d n f,x= .g d n f→n≠t0+1)
 |[],h=>by cases h
 |(q,y)::r,h=>by
  have h:(bif Nat.beq q t then some (Pb t0 y)else v6 t (zb t0 r))=some x:=h
  rw[A8]
  cases hb:Nat.beq q t with
  |true=>
   rw[hb,cond_true]at h
   have h:=Option.some.inj h
   subst h
   cases y with
   |c v=>exact .inr ⟨rfl,fun d n f e=>by cases e⟩
   |dead=>exact .inl rfl
   |g d n f=>
    show(bif Nat.beq n (t0+1)then Src.dead else .g d n f)= .dead∨(_=some (bif Nat.beq n (t0+1)then Src.dead else .g d n f)∧ ∀d' n' f',(bif Nat.beq n (t0+1)then Src.dead else .g d n f)= .g d' n' f'→n'≠t0+1)
    cases hn:Nat.beq n (t0+1)with
    |true=>exact .inl rfl
    |false=>exact .inr ⟨rfl,fun d' n' f' e=>by cases e;intro e2;rw[e2]at hn;simp at hn⟩
  |false=>
   rw[hb,cond_false]at h
   exact Hl h
theorem Bx{t:Tmp}{v:V}(hi:Inv loc D m fr e' e)(ht:t<256)(hl:Nat.testBit loc t=false)(hv:v≠ .und):
  Inv loc (D|||2^t) (zb t m) fr ((sT t).f v e') (ji e (some t) v):=by
 have hs: ∀t',slot ((sT t).f v e') t'=if t'=t then v else slot e' t':=fun t'=>by rw[q0x];exact BZ v ht t'
 refine⟨fun t' h=>?_,fun t' x hx=>?_,fun t' h=>?_⟩
 ·rw[hs,j8 ht]
  by_cases e:t'=t
  ·rw[if_pos e,if_pos e]
  ·rw[if_neg e,if_neg e];exact hi.ag t' h
 ·rcases Hl hx with rfl|⟨hx,hn⟩
  ·refine⟨?_,trivial⟩
   --its name is still local
   have: ∀m:Mp α,(∀y,v6 t' m=some y→Nat.testBit loc t'=true)→ ∀y,v6 t' (zb t m)=some y→Nat.testBit loc t'=true:=by
    intro m
    induction m with
    |nil=>intro _ y h;cases h
    |cons p r ih=>
     intro hm y h
     obtain⟨q,z⟩:=p
     have h:(bif Nat.beq q t' then some (Pb t z)else v6 t' (zb t r))=some y:=h
     cases hb:Nat.beq q t' with
     |true=>exact hm z (by rw[A8,hb];rfl)
     |false=>
      rw[hb,cond_false]at h
      exact ih (fun y hy=>hm y (by rw[A8,hb];exact hy)) y h
   exact this m (fun y hy=>(hi.mp t' y hy).1) _ hx
  ·obtain⟨h1,h2⟩:=hi.mp t' x hx
   have hne: ¬t'=t:=fun e=>by rw[e,hl]at h1;cases h1
   have he:slot (ji e (some t) v) t'=slot e t':=by rw[j8 ht,if_neg hne]
   refine⟨h1,?_⟩
   cases x with
   |c u=>exact⟨he.trans h2.1,h2.2⟩
   |dead=>trivial
   |g d n f=>
    refine⟨fun hd=>by rw[he];exact h2.1 hd,fun e'' h3=>?_,h2.2.2⟩
    rw[he]
    refine h2.2.1 e'' fun q hq=>?_
    rw[h3 q hq,hs,if_neg]
    intro e
    subst e
    exact hn d n f rfl hq
 ·rw[j8 ht]
  by_cases e:t'=t
  ·rw[if_pos e];exact hv
  ·rw[if_neg e]
   refine hi.df t' ?_
   rw[Nat.testBit_or,Nat.testBit_two_pow,Bool.or_eq_true]at h
   rcases h with h|h
   ·exact h
   ·exact absurd (of_decide_eq_true h).symm e
def Cont(k:Kont γ α)(loc:Nat)(fr:α)(c:γ)(e1:q9)(s1:S)(v2:V)(s2:S):Prop:=
 ∃(β:Type)(p:β→α)(mβ:Mp β)(Dβ:Nat)(fb:β)(eb:q9),p fb=fr∧Inv loc Dβ mβ fb eb e1∧(k β p mβ Dβ).f c fb eb s1= .ok v2 s2
theorem NE{k:Kont γ α}{dst:Option Tmp}{h:VC α}{s:S}(hd: ∀t,dst=some t→t<256)(hi:Inv loc D m fr e' e)(hf:(finV loc D m k dst h).f c fr e' s= .ok v2 s2):
  ∃K,h.f fr e' s K= .ok v2 s2∧ ∀v,v≠ .und→K v= .ok v2 s2→Cont k loc fr c (ji e dst v) s v2 s2:=by
 have hf:(Km loc D m k dst h).f c fr e' s= .ok v2 s2:=by
  have:finV loc D m k dst h=Pf.1 loc D m k dst h:=rfl
  rw[this,Pf.2]at hf;exact hf
 obtain⟨h⟩:=h
 unfold Km at hf
 cases dst with
 |none=>
  simp only at hf
  generalize hk:k α id m D=q at hf
  obtain⟨K⟩:=q
  exact⟨_,hf,fun v hv hK=>⟨α,id,m,D,fr,e',rfl,hi,by rw[hk];exact hK⟩⟩
 |some t=>
  simp only at hf
  cases hl:Nat.testBit loc t with
  |true=>
   rw[hl,cond_true]at hf
   generalize hk:k (Fm α) (fun f=>f.r) ((t,.g true 0 fun fr _=>fr.v)::upM m) D=q at hf
   obtain⟨K⟩:=q
   exact⟨_,hf,fun v hv hK=>⟨Fm α,fun f=>f.r,_,D,⟨v,fr⟩,e',rfl,NO hi (hd t rfl) hl hv,by rw[hk];exact hK⟩⟩
  |false=>
   rw[hl,cond_false]at hf
   generalize hk:k α id (zb t m) (D|||2^t)=q at hf
   generalize hs:sT t=st at hf
   obtain⟨K⟩:=q
   obtain⟨st⟩:=st
   refine⟨_,hf,fun v hv hK=>⟨α,id,_,_,fr,st v e',rfl,?_,by rw[hk];exact hK⟩⟩
   have:=Bx (v:=v) hi (hd t rfl) hl hv
   rw[hs]at this;exact this
theorem ND{k:Kont γ α}{dst:Option Tmp}{h:OC γ α}{s:S}(hd: ∀t,dst=some t→t<256)(hi:Inv loc D m fr e' e)(hf:(finO loc D m k dst h).f c fr e' s= .ok v2 s2):
  ∃K,h.f c fr e' s K= .ok v2 s2∧ ∀v s1,v≠ .und→K v s1= .ok v2 s2→Cont k loc fr c (ji e dst v) s1 v2 s2:=by
 have hf:(Kl loc D m k dst h).f c fr e' s= .ok v2 s2:=by
  have:finO loc D m k dst h=Pe.1 loc D m k dst h:=rfl
  rw[this,Pe.2]at hf;exact hf
 obtain⟨h⟩:=h
 unfold Kl at hf
 cases dst with
 |none=>
  simp only at hf
  generalize hk:k α id m D=q at hf
  obtain⟨K⟩:=q
  exact⟨_,hf,fun v s1 hv hK=>⟨α,id,m,D,fr,e',rfl,hi,by rw[hk];exact hK⟩⟩
 |some t=>
  simp only at hf
  cases hl:Nat.testBit loc t with
  |true=>
   rw[hl,cond_true]at hf
   generalize hk:k (Fm α) (fun f=>f.r) ((t,.g true 0 fun fr _=>fr.v)::upM m) D=q at hf
   obtain⟨K⟩:=q
   exact⟨_,hf,fun v s1 hv hK=>⟨Fm α,fun f=>f.r,_,D,⟨v,fr⟩,e',rfl,NO hi (hd t rfl) hl hv,by rw[hk];exact hK⟩⟩
  |false=>
   rw[hl,cond_false]at hf
   generalize hk:k α id (zb t m) (D|||2^t)=q at hf
   generalize hs:sT t=st at hf
   obtain⟨K⟩:=q
   obtain⟨st⟩:=st
   refine⟨_,hf,fun v s1 hv hK=>⟨α,id,_,_,fr,st v e',rfl,?_,by rw[hk];exact hK⟩⟩
   have:=Bx (v:=v) hi (hd t rfl) hl hv
   rw[hs]at this;exact this
theorem V6{k:Kont γ α}{dst:Option Tmp}{x:Operand}{y:Src α}{s:S}(hd: ∀t,dst=some t→t<256)(hi:Inv loc D m fr e' e)(hs:src loc D m x=some y)(hf:(finM loc D m k dst y).f c fr e' s= .ok v2 s2):
  qa e x≠ .und∧Cont k loc fr c (ji e dst (qa e x)) s v2 s2:=by
 have hf:(Kk loc D m k dst y).f c fr e' s= .ok v2 s2:=by
  have:finM loc D m k dst y=Pd.1 loc D m k dst y:=rfl
  rw[this,Pd.2]at hf;exact hf
 have ho:=wE hs hi
 unfold Kk at hf
 cases dst with
 |none=>
  cases y with
  |g d n f=>cases d<;>cases hf
  |_=>cases hf
 |some t=>
  have ht:=hd t rfl
  have e1: ∀v,slot (ji e (some t) v) t=v:=fun v=>by rw[j8 ht,if_pos rfl]
  cases y with
  |dead=>cases hf
  |c v=>
   obtain⟨h1,h2⟩:=ho.1 v rfl
   rw[h1]
   refine⟨h2,?_⟩
   simp only at hf
   cases hl:Nat.testBit loc t with
   |true=>
    rw[hl,cond_true]at hf
    exact⟨α,id,_,D,fr,e',rfl,ED (x:= .c v) hi ht hl h2 ⟨e1 v,h2⟩,hf⟩
   |false=>
    rw[hl,cond_false]at hf
    generalize hk:k α id (zb t m) (D|||2^t)=q at hf
    generalize hst:sT t=st at hf
    obtain⟨K⟩:=q
    obtain⟨st⟩:=st
    have:=Bx (v:=v) hi ht hl h2
    rw[hst]at this
    exact⟨α,id,_,_,fr,st v e',rfl,this,by rw[hk];exact hf⟩
  |g d n f=>
   obtain⟨h1,h2,h3,h4⟩:=ho.2 d n f rfl
   have alias:qa e x≠ .und→SrcOk loc fr e' (ji e (some t) (qa e x)) t (.g true n f):=fun hn=>⟨fun _=>by rw[e1];exact hn,fun e'' h=>by rw[e1];exact h3 e'' h,h4⟩
   cases d with
   |true=>
    have hn:=h2 rfl
    refine⟨hn,?_⟩
    simp only at hf
    cases hl:Nat.testBit loc t with
    |true=>
     rw[hl,cond_true]at hf
     exact⟨α,id,_,D,fr,e',rfl,ED hi ht hl hn (alias hn),hf⟩
    |false=>
     rw[hl,cond_false]at hf
     generalize hk:k α id (zb t m) (D|||2^t)=q at hf
     generalize hst:sT t=st at hf
     obtain⟨K⟩:=q
     obtain⟨st⟩:=st
     have:=Bx (v:=qa e x) hi ht hl hn
     rw[hst]at this
     have hf:K c fr (st (f fr e') e') s= .ok v2 s2:=hf
     rw[h1]at hf
     exact⟨α,id,_,_,fr,st (qa e x) e',rfl,this,by rw[hk];exact hf⟩
   |false=>
    simp only at hf
    cases hl:Nat.testBit loc t with
    |true=>
     rw[hl,cond_true]at hf
     generalize hk:k α id ((t,.g true n f)::m) D=q at hf
     obtain⟨K⟩:=q
     obtain⟨hn,hf⟩:=Ut (show qD (f fr e') _= .ok v2 s2 from hf)
     rw[h1]at hn
     exact⟨hn,α,id,_,D,fr,e',rfl,ED hi ht hl hn (alias hn),by rw[hk];exact hf⟩
    |false=>
     rw[hl,cond_false]at hf
     generalize hk:k α id (zb t m) (D|||2^t)=q at hf
     generalize hst:sT t=st at hf
     obtain⟨K⟩:=q
     obtain⟨st⟩:=st
     obtain⟨hn,hf⟩:=AN (show qF (f fr e') (fun v=>K c fr (st v e') s)= .ok v2 s2 from hf)
     rw[h1]at hn hf
     have:=Bx (v:=qa e x) hi ht hl hn
     rw[hst]at this
     exact⟨hn,α,id,_,_,fr,st (qa e x) e',rfl,this,by rw[hk];exact hf⟩
theorem Qr{k:Kont γ α}{o:Oper}{s:S}(hr:RcLe pr (rg.f c) rc)(hd: ∀t,o.dst=some t→t<256)(hi:Inv loc D m fr e' e)(hf:(Lb P pr rg loc D m k o).f c fr e' s= .ok v2 s2):
  ∃v s1,v≠ .und∧vq rc P e s o.op= .ok v s1∧Cont k loc fr c (ji e o.dst v) s1 v2 s2:=by
 unfold Lb at hf
 have mv: ∀{x:Operand}{y:Src α},src loc D m x=some y→(o.op= .move x∨o.op= .assign x)→(finM loc D m k o.dst y).f c fr e' s= .ok v2 s2→ ∃v s1,v≠ .und∧vq rc P e s o.op= .ok v s1∧Cont k loc fr c (ji e o.dst v) s1 v2 s2:=by
  intro x y hs hop hf
  obtain⟨h1,h2⟩:=V6 hd hi hs hf
  refine⟨_,s,h1,?_,h2⟩
  have hk:ap s (AK (qa e x))= .ok (qa e x) s:=by
   unfold AK
   have:isU (qa e x)=false:=by cases hq:qa e x<;>first|rfl|exact absurd hq h1
   rw[this];rfl
  rcases hop with h|h<;>rw[h]<;>exact hk
 split at hf
 ·rename_i y hy
  split at hy
  ·rename_i x hop;exact mv hy (.inl hop) hf
  ·rename_i x hop;exact mv hy (.inr hop) hf
  ·cases hy
 ·split at hf
  ·rename_i h hc
   obtain⟨K,h1,h2⟩:=NE hd hi hf
   obtain⟨v,h3,h4,h5⟩:=SD hc hi h1
   exact⟨v,s,h3,h4 rc,h2 v h3 h5⟩
  ·split at hf
   ·rename_i h hc
    obtain⟨K,h1,h2⟩:=ND hd hi hf
    obtain⟨v,s1,h3,h4,h5⟩:=La hr hc hi h1
    exact⟨v,s1,h3,h4,h2 v s1 h3 h5⟩
   ·cases hf
def StepR(rc:FuncId→List V→S→RO)(P:Program)(all:List Oper)(o:Oper)(e:q9)(s:S)(e1:q9)(s1:S):Prop:=
 (jf all e o.guard=some false∧e1=ji e o.dst (.tu [])∧s1=s)∨(jf all e o.guard=some true∧ ∃v,v≠ .und∧vq rc P e s o.op= .ok v s1∧e1=ji e o.dst v)
theorem Lo {all : List Oper} {o : Oper} {run skip : CF γ α} {s : S} (hd : ∀ t, o.dst = some t → t < 256) (hi : Inv loc D m fr e' e) (hf : (gdC loc D m all o run skip).f c fr e' s = .ok v2 s2) :
  (jf all e o.guard = some true ∧ run.f c fr e' s = .ok v2 s2) ∨
   (jf all e o.guard = some false ∧ ∃ e1', Inv loc (skD D o.dst) (skM m o.dst) fr e1' (ji e o.dst (.tu [])) ∧ skip.f c fr e1' s = .ok v2 s2) := by
 have hf : (gdC0 loc D m all o run skip).f c fr e' s = .ok v2 s2 := by
  have : gdC loc D m all o run skip = gdCP.1 loc D m all o run skip := rfl
  rw [this, gdCP.2] at hf; exact hf
 unfold gdC0 at hf
 cases hg : o.guard with
 | none => rw [hg] at hf; exact .inl ⟨rfl, hf⟩
 | some jw =>
  obtain ⟨j, w⟩ := jw
  rw [hg] at hf
  simp only at hf
  split at hf
  ·rename_i t ht
   split at hf
   ·rename_i g hgv
    have hx : g fr e' = slot e t := qL hgv hi
    have hgk : ∀ b, slot e t = .bb b → jf all e (some (j, w)) = some (@Bool.rec (fun _ => Bool) (!b) b w) := fun b hb => by
     unfold jf; simp only; rw [ht]; simp only; rw [hb]
    have hgt : slot e t = .tu [] → jf all e (some (j, w)) = some false := fun hb => by
     unfold jf; simp only; rw [ht]; simp only; rw [hb]
    have main : ∀ (A B : RO), qG (g fr e') (fun b => @Bool.rec (fun _ => RO) A B (@Bool.rec (fun _ => Bool) (notB b) b w)) A = .ok v2 s2 →
      (jf all e (some (j, w)) = some true ∧ B = .ok v2 s2) ∨ (jf all e (some (j, w)) = some false ∧ A = .ok v2 s2) := by
     intro A B h
     rcases q0q h with ⟨b, eb, h⟩ | ⟨eb, h⟩
     ·rw [hx] at eb
      rw [hgk b eb]
      rw [IQ] at h
      cases hw : (@Bool.rec (fun _ => Bool) (!b) b w) with
      | true => rw [hw] at h; exact .inl ⟨rfl, h⟩
      | false => rw [hw] at h; exact .inr ⟨rfl, h⟩
     ·rw [hx] at eb
      exact .inr ⟨hgt eb, h⟩
    split at hf
    ·rename_i d hdst
     cases hl : Nat.testBit loc d with
     | true => rw [hl, cond_true] at hf; cases hf
     | false =>
      rw [hl, cond_false] at hf
      generalize hst : sT d = st at hf
      obtain ⟨st⟩ := st
      rcases main _ _ hf with h | ⟨h1, h2⟩
      ·exact .inl h
      ·refine .inr ⟨h1, st (.tu []) e', ?_, h2⟩
       rw [hdst]
       have := Bx (v := .tu []) hi (hd d hdst) hl (by simp)
       rw [hst] at this; exact this
    ·rename_i hdst
     rcases main _ _ hf with h | ⟨h1, h2⟩
     ·exact .inl h
     ·refine .inr ⟨h1, e', ?_, h2⟩
      rw [hdst]; exact hi
   ·cases hf
  ·cases hf
theorem L8{k:Kont γ α}{all:List Oper}{o:Oper}{s:S}(hr:RcLe pr (rg.f c) rc)(hd: ∀t,o.dst=some t→t<256)(hi:Inv loc D m fr e' e)(hf:(Du P pr rg loc D m k all o).f c fr e' s= .ok v2 s2):
  ∃e1 s1,StepR rc P all o e s e1 s1∧Cont k loc fr c e1 s1 v2 s2:=by
 unfold Du at hf
 rcases Lo hd hi hf with⟨h1,h2⟩|⟨h1,e1',h2,h3⟩
 ·obtain⟨v,s1,h3,h4,h5⟩:=Qr hr hd hi h2
  exact⟨_,s1,.inr ⟨h1,v,h3,h4,rfl⟩,h5⟩
 ·exact⟨_,s,.inl ⟨h1,rfl,rfl⟩,α,id,_,_,fr,e1',rfl,h2,h3⟩
theorem TH{all r:List Oper}{o:Oper}{s s1:S}{e1:q9}(h:StepR rc P all o e s e1 s1):wD rc P all (o::r) e s=wD rc P all r e1 s1:=by
 rcases h with⟨h1,rfl,rfl⟩|⟨h1,v,_,h2,rfl⟩
 ·show @Option.rec Bool (fun _=>R) _ _ (jf all e o.guard)=_
  rw[h1];rfl
 ·show @Option.rec Bool (fun _=>R) _ _ (jf all e o.guard)=_
  rw[h1]
  show @RO.rec (fun _=>R) _ _ _ (vq rc P e s o.op)=_
  rw[h2];rfl
def A5(e e1:q9):Prop:= ∀t,slot e t≠ .und→slot e1 t≠ .und
theorem EF{o:Option Tmp}{v:V}(hd: ∀t,o=some t→t<256)(hv:v≠ .und):A5 e (ji e o v):=by
 intro t ht
 cases o with
 |none=>exact ht
 |some d=>
  rw[j8 (hd d rfl)]
  split
  ·exact hv
  ·exact ht
theorem StepR.keeps{all:List Oper}{o:Oper}{s s1:S}{e1:q9}(h:StepR rc P all o e s e1 s1)(hd: ∀t,o.dst=some t→t<256):A5 e e1∧ ∀t,o.dst=some t→slot e1 t≠ .und:=by
 have key: ∀v:V,v≠ .und→A5 e (ji e o.dst v)∧ ∀t,o.dst=some t→slot (ji e o.dst v) t≠ .und:=fun v hv=>⟨EF hd hv,fun t ht=>by rw[ht,j8 (hd t ht),if_pos rfl];exact hv⟩
 rcases h with⟨_,rfl,rfl⟩|⟨_,v,hv,_,rfl⟩
 ·exact key _ (by simp)
 ·exact key v hv
theorem Hd{nrm:CK γ}{all:List Oper}(hr:RcLe pr (rg.f c) rc): ∀(l:List Oper){α:Type}{m:Mp α}{D:Nat}{fr:α}{e' e:q9}{s:S},(∀o∈l,∀t,o.dst=some t→t<256)→Inv loc D m fr e' e→
  (Bq P pr rg loc nrm all l α m D).f c fr e' s= .ok v2 s2→
  ∃e1 s1 e1',wD rc P all l e s= .ok .nrm e1 s1∧(∀t,Nat.testBit loc t=false→slot e1' t=slot e1 t)∧A5 e e1∧(∀o∈l,∀t,o.dst=some t→slot e1 t≠ .und)∧nrm.f c e1' s1= .ok v2 s2
 |[],α,m,D,fr,e',e,s,hd,hi,hf=>by
  refine⟨e,s,e',rfl,hi.ag,fun t h=>h,fun o ho=>(by simp at ho),?_⟩
  obtain⟨f⟩:=nrm
  exact hf
 |o::l,α,m,D,fr,e',e,s,hd,hi,hf=>by
  have hf:(Du P pr rg loc D m (fun β _ m D=>Bq P pr rg loc nrm all l β m D) all o).f c fr e' s= .ok v2 s2:=hf
  obtain⟨e1,s1,h1,β,p,mb,Db,fb,eb,_,h2,h3⟩:=L8 hr (hd o q1k) hi hf
  obtain⟨e2,s3,e2',g1,g2,g3,g4,g5⟩:=Hd hr l (fun o ho=>hd o (q1j _ ho)) h2 h3
  obtain⟨k1,k2⟩:=h1.keeps (hd o q1k)
  refine⟨e2,s3,e2',by rw[TH h1];exact g1,g2,fun t h=>g3 t (k1 t h),fun o' ho t ht=>?_,g5⟩
  rcases q1i.1 ho with rfl|ho
  ·exact g3 t (k2 t ht)
  ·exact g4 o' ho t ht
theorem Fq(hag: ∀t,Nat.testBit loc t=false→slot e' t=slot e t)(hdf: ∀t,Nat.testBit D t=true→slot e t≠ .und):Inv loc D ([]:Mp Unit) () e' e:=⟨hag,fun t x h=>(by cases h),hdf⟩
end
end
noncomputable section
theorem CZ{a b:Key}(h:keyB a b=true):a=b:=by
 unfold keyB at h
 simp only[jp]at h
 obtain⟨h1,h2,h3,h4⟩:=h
 have e1:=D16.n_inj (q1B h1)
 have e2:=D16.n_inj (q1B h2)
 have e3:=D16.n_inj (q1B h3)
 have e4:=D16.n_inj (q1B h4)
 cases a;cases b;simp_all
theorem KX{a b:Bool}(h:P5 a b=true):a=b:=by cases a<;>cases b<;>first|rfl|cases h
theorem NU{a b:IntKind}(h:keqF a b=true):a=b:=CY (by rw[←NS];exact h)
theorem KS{a b:V}(h:H5 a b=true):a=b:=by
 unfold H5 at h
 split at h
 ·simp only[jp]at h;rw[NU h.1,q1B h.2]
 ·simp only[jp]at h;rw[NU h.1,q1B h.2]
 ·rw[KX h]
 ·simp only[jp]at h;rw[KX h.1,q1B h.2.1,q1B h.2.2]
 ·rw[q1B h]
 ·simp only[jp]at h;rw[CZ h.1,q1B h.2]
 ·simp only[jp]at h;rw[CZ h.1,q1B h.2.1,q1B h.2.2.1,q1B h.2.2.2]
 ·simp only[jp]at h;rw[CZ h.1,q1B h.2.1,q1B h.2.2.1,q1B h.2.2.2.1,q1B h.2.2.2.2]
 ·simp only[jp]at h;rw[CZ h.1,q1B h.2.1,q1B h.2.2.1,q1B h.2.2.2]
 ·rw[CZ h]
 ·simp only[jp]at h;rw[q1B h.1,q1B h.2]
 ·rfl
 ·rfl
 ·rw[Gd.1 h]
 ·simp only[jp]at h;rw[q1B h.1,q1B h.2]
 ·cases h
theorem KT: ∀{a b:List V},Kh a b=true→a=b
 |[],[],_=>rfl
 |a::l,b::r,h=>by
  have h:ja (H5 a b) (Kh l r)=true:=h
  rw[jp]at h
  rw[KS h.1,KT h.2]
 |[],_::_,h=>by cases h
 |_::_,[],h=>by cases h
theorem UN{a b:V}(h:beqV a b=true):a=b:=by
 unfold beqV at h
 split at h
 ·simp only[jp]at h;rw[q1B h.1,KT h.2]
 ·exact KS h
section
variable {v2:V} {s2:S} {γ:Type} {P:Program} {pr:vw} {rg:RG γ} {loc:Nat} {c:γ} {rc:FuncId→List V→S→RO}
theorem Jq{α β:Type}(f:Src α→Src β)(t:Nat): ∀m:Mp α,v6 t (m.map fun p=>(p.1,f p.2))=(v6 t m).map f
 |[]=>rfl
 |p::r=>by
  show(bif Nat.beq p.1 t then some (f p.2)else v6 t (r.map fun p=>(p.1,f p.2)))=Option.map f (bif Nat.beq p.1 t then some p.2 else v6 t r)
  cases Nat.beq p.1 t with
  |true=>rfl
  |false=>exact Jq f t r
theorem NP{α β:Type}{D:Nat}{m:Mp α}{fr:α}{fr2:β}{e' e:q9}(f:Src α→Src β)(hf: ∀t x,SrcOk loc fr e' e t x→SrcOk loc fr2 e' e t (f x))(hi:Inv loc D m fr e' e):Inv loc D (m.map fun p=>(p.1,f p.2)) fr2 e' e:=by
 refine⟨hi.ag,fun t x hx=>?_,hi.df⟩
 rw[Jq]at hx
 cases h:v6 t m with
 |none=>rw[h]at hx;cases hx
 |some y=>
  rw[h]at hx;cases hx
  obtain⟨h1,h2⟩:=hi.mp t y h
  exact⟨h1,hf t y h2⟩
theorem QU{α:Type}{D:Nat}{m:Mp α}{fr:α}{e' e:q9}(v:V)(hi:Inv loc D m fr e' e):Inv loc D (upM m) (⟨v,fr⟩:Fm α) e' e:=NP Src.up (fun t x h=>h.up) hi
theorem Xv{α:Type}{D:Nat}{m:Mp α}{fr:α}{e' e:q9}(s:S)(hi:Inv loc D m fr e' e):Inv loc D (m.map fun p=>(p.1,p.2.us)) (⟨s,fr⟩:Fs α) e' e:=
 NP Src.us (fun t x h=>by cases x<;>exact h) hi
def HsOk{α:Type}(hs:List (Option (GS α)))(fr:α)(ss:Nat→S)(i:Nat):Prop:=hs.length=i∧ ∀u g,hs[u]?=some (some g)→g.f fr=ss u
def LdOk{α:Type}(P:Program)(all:List Oper)(M:List Nat)(ld:List (LD α))(fr:α)(es:Nat→q9)(ss:Nat→S)(i:Nat):Prop:=
 ∀d∈ld,d.i<i∧ ∃t x,(qz all d.i).op= .load t x∧qy P t=some (d.g,d.sz)∧(d.g=false→d.sz=1)∧
  ((d.sk=true∧jf all (es d.i) (qz all d.i).guard=some false)∨(d.sk=false∧d.p fr=qa (es d.i) x∧d.v fr≠ .und∧(j4 P (rmK (ss d.i).m (zOf P ss all M d.i)) t (qa (es d.i) x)).res=d.v fr))
theorem Ll{α:Type}{j:Nat}: ∀{ld:List (LD α)}{d:LD α},Hk j ld=some d→d∈ld∧d.i=j
 |[],d,h=>by cases h
 |a::r,d,h=>by
  have h:(bif Nat.beq a.i j then some a else Hk j r)=some d:=h
  cases hb:Nat.beq a.i j with
  |true=>rw[hb]at h;cases h;exact⟨by simp,q1B hb⟩
  |false=>rw[hb]at h;obtain⟨h1,h2⟩:=Ll h;exact⟨by simp[h1],h2⟩
theorem EE{β:Type}{o:Option (Option β)}{x:β}(h:o.join=some x):o=some (some x):=by
 cases o with
 |none=>cases h
 |some o=>cases o with
  |none=>cases h
  |some y=>cases h;rfl
def Kc(P:Program)(g:Bool)(sz:Nat)(m:qM)(p v:V):Prop:=(g=false→sz=1)→ ∀t,qy P t=some (g,sz)→(j4 P m t p).res=v
theorem Dn{g:Bool}{sz:Nat}{m:qM}{p v:V}{z:RO}(h:z3 g sz m p (fun w=> @Bool.rec (fun _=>RO) (.no [101]) z (beqV w v))= .ok v2 s2):((g=false→sz=1)→Kc P g sz m p v)∧z= .ok v2 s2:=by
 have hz:z= .ok v2 s2:=by
  have key: ∀(hs:Bool),True:=fun _=>trivial
  unfold z3 at h
  rcases DX h with⟨k,o,e,h'⟩|⟨k,i,o,w,e,h'⟩
  ·obtain⟨v',hb,h'⟩:=LB h'
   exact part_z h'
  ·rcases LE h' with⟨es,n,q,hb,h'⟩|⟨es,n,q,hb,h'⟩<;>obtain⟨hc,h'⟩:=ve h'<;>exact part_z h'
 refine⟨fun hs _ t ht=>?_,hz⟩
 obtain⟨u,ks,h1,h2,h3⟩:=Fy (P:=P) (part:=fun v' o=>wn g sz v' o fun w=> @Bool.rec (fun _=>RO) (.no [101]) z (beqV w v)) ht (fun v' o ks h=>Md ks hs h) h
 obtain⟨h4,_⟩:=ve h2
 rw[h3,←UN h4];rfl
where
 part_z {g:Bool} {sz:Nat} {v v':V} {o:Nat} {z:RO} (h:wn g sz v' o (fun w=> @Bool.rec (fun _=>RO) (.no [101]) z (beqV w v))= .ok v2 s2):z= .ok v2 s2:=by
  cases g with
  |true=>
   obtain⟨u,_,h1,_⟩:=LI [] (show ldA v' sz o _ _= .ok v2 s2 from h)
   exact(ve h1).2
  |false=>
   obtain⟨u,_,h1,_⟩:=LH [] (show ld1 v' o _= .ok v2 s2 from h)
   exact(ve h1).2
theorem Ff{α:Type}{n:Nat}{hs:List (Option (GS α))}{ld:List (LD α)}{fr:α}{s:S}: ∀{L:List (Nat×Nat)}{b:BL α}{z:RO},chkL n hs ld L=some b→b.f fr s z= .ok v2 s2→z= .ok v2 s2∧ ∀q∈L,∃d g,Hk q.1 ld=some d∧hs[q.2]?=some (some g)∧
  (d.sk=true∨(((d.g=false→d.sz=1)→Kc P d.g d.sz (g.f fr).m (d.p fr) (d.v fr))∧((q.2+1=n∧((d.g=false→d.sz=1)→Kc P d.g d.sz s.m (d.p fr) (d.v fr)))∨ ∃g',hs[q.2+1]?=some (some g')∧((d.g=false→d.sz=1)→Kc P d.g d.sz (g'.f fr).m (d.p fr) (d.v fr)))))
 |[],b,z,h,hb=>by cases h;exact⟨hb,fun q hq=>by simp at hq⟩
 |p::r,b,z,h,hb=>by
  unfold chkL at h
  split at h
  ·rename_i i0 sk gg sz pp vv g b' h1 h2 h3
   have h2:=EE h2
   cases hsk:sk with
   |true=>
    rw[hsk,cond_true]at h;cases h
    obtain⟨k1,k2⟩:=Ff h3 hb
    refine⟨k1,fun q hq=>?_⟩
    rcases q1i.1 hq with rfl|hq
    ·exact⟨_,⟨g⟩,h1,h2,.inl hsk⟩
    ·exact k2 q hq
   |false=>
    rw[hsk,cond_false]at h
    cases hn:Nat.beq (p.2+1) n with
    |true=>
     rw[hn,cond_true]at h;cases h
     obtain⟨a1,hb⟩:=Dn (P:=P) hb
     obtain⟨a2,hb⟩:=Dn (P:=P) hb
     obtain⟨k1,k2⟩:=Ff h3 hb
     refine⟨k1,fun q hq=>?_⟩
     rcases q1i.1 hq with rfl|hq
     ·exact⟨_,⟨g⟩,h1,h2,.inr ⟨a1,.inl ⟨q1B hn,a2⟩⟩⟩
     ·exact k2 q hq
    |false=>
     rw[hn,cond_false]at h
     split at h
     ·rename_i g' h4
      have h4:=EE h4
      cases h
      obtain⟨a1,hb⟩:=Dn (P:=P) hb
      obtain⟨a2,hb⟩:=Dn (P:=P) hb
      obtain⟨k1,k2⟩:=Ff h3 hb
      refine⟨k1,fun q hq=>?_⟩
      rcases q1i.1 hq with rfl|hq
      ·exact⟨_,⟨g⟩,h1,h2,.inr ⟨a1,.inr ⟨⟨g'⟩,h4,a2⟩⟩⟩
      ·exact k2 q hq
     ·cases h
  ·cases h
theorem GS.by_f{α β:Type}(g:GS α)(p:β→α)(fb:β):(g.by p).f fb=g.f (p fb):=by obtain⟨f⟩:=g;rfl
theorem Ko{α β:Type}{hs:List (Option (GS α))}{fr:α}{ss:Nat→S}{i:Nat}(h:HsOk hs fr ss i){p:β→α}{fb:β}(hp:p fb=fr):HsOk (hs.map fun h=>h.map fun h=>h.by p) fb ss i:=by
 refine⟨by rw[q1d];exact h.1,fun u g hg=>?_⟩
 rw[List.getElem?_map]at hg
 cases hu:hs[u]? with
 |none=>rw[hu]at hg;cases hg
 |some o=>
  rw[hu]at hg
  cases o with
  |none=>cases hg
  |some g0=>cases hg;rw[GS.by_f,hp];exact h.2 u g0 hu
theorem LD.by_f{α β:Type}(d:LD α)(p:β→α)(fb:β):(d.by p).i=d.i∧(d.by p).sk=d.sk∧(d.by p).g=d.g∧(d.by p).sz=d.sz∧(d.by p).p fb=d.p (p fb)∧(d.by p).v fb=d.v (p fb):=by obtain⟨a,b,c,e,f,g⟩:=d;exact⟨rfl,rfl,rfl,rfl,rfl,rfl⟩
theorem Kt{α β:Type}{all:List Oper}{M:List Nat}{ld:List (LD α)}{fr:α}{es:Nat→q9}{ss:Nat→S}{i:Nat}(h:LdOk P all M ld fr es ss i){p:β→α}{fb:β}(hp:p fb=fr):LdOk P all M (ld.map fun h=>h.by p) fb es ss i:=by
 intro d hd
 obtain⟨d0,h0,rfl⟩:=List.mem_map.1 hd
 obtain⟨e1,e2,e3,e4,e5,e6⟩:=LD.by_f d0 p fb
 rw[e1,e2,e3,e4,e5,e6,hp]
 exact h d0 h0
theorem Jb{α:Type}{hs:List (Option (GS α))}{fr:α}{ss:Nat→S}{i:Nat}(h:HsOk hs fr ss i): ∀{us:List Nat}{z:ZL α},zGet hs us=some z→z.f fr=us.map fun u=>(ss u).nx
 |[],z,hz=>by cases hz;rfl
 |u::us,z,hz=>by
  unfold zGet at hz
  split at hz
  ·rename_i g l h1 h2
   cases hz
   show(g fr).nx::l fr=_
   have e1:g fr=ss u:=h.2 u ⟨g⟩ (EE h1)
   have e2:l fr=_:=Jb h h2
   rw[e1,e2];rfl
  ·cases hz
def ext{β:Type}(f:Nat→β)(i:Nat)(b:β):Nat→β:=fun j=>if j≤i then f j else b
theorem vX{β:Type}{f:Nat→β}{i j:Nat}{b:β}(h:j≤i):ext f i b j=f j:=by unfold ext;rw[if_pos h]
theorem Qz{β:Type}{f:Nat→β}{i:Nat}{b:β}:ext f i b (i+1)=b:=by unfold ext;rw[if_neg (by omega)]
theorem Z1{all:List Oper}{M:List Nat}{i u:Nat}(h:u∈unz P all M i):u<i:=by
 unfold unz at h
 cases hb:Nat.ble (cls P (qz all i).op) 1 with
 |true=>rw[hb]at h;simp at h
 |false=>rw[hb]at h;exact List.mem_range.1 (q1l.1 h).1
theorem G0{all:List Oper}{M:List Nat}{ss ss':Nat→S}{i:Nat}(h: ∀j,j<i→ss' j=ss j):zOf P ss' all M i=zOf P ss all M i:=by
 unfold zOf
 exact List.map_congr_left fun u hu=>by rw[h u (Z1 hu)]
theorem QR{α:Type}{hs:List (Option (GS α))}{fr:α}{ss:Nat→S}{i:Nat}{s1:S}{hs2:List (Option (GS α))}(h:HsOk hs fr ss i)(h2:hs2=hs++[none]∨ ∃g:GS α,hs2=hs++[some g]∧g.f fr=ss i):HsOk hs2 fr (ext ss i s1) (i+1):=by
 have key: ∀o:Option (GS α),(∀g,o=some g→g.f fr=ss i)→HsOk (hs++[o]) fr (ext ss i s1) (i+1):=by
  intro o ho
  refine⟨by rw[q1a,h.1];rfl,fun u g hg=>?_⟩
  rcases q1K u i with hu|hu
  ·rw[List.getElem?_append_left (by rw[h.1];exact hu)]at hg
   rw[vX (by omega)];exact h.2 u g hg
  ·rw[List.getElem?_append_right (by rw[h.1];exact hu),h.1]at hg
   by_cases e:u=i
   ·subst e
    simp at hg
    rw[vX (q1G _)];exact ho g hg
   ·have:u-i=(u-i-1)+1:=by omega
    rw[this]at hg;simp at hg
 rcases h2 with rfl|⟨g,rfl,hg⟩
 ·exact key none fun g hg=>by cases hg
 ·exact key (some g) fun g' hg'=>by cases hg';exact hg
theorem EH{α:Type}{all:List Oper}{M:List Nat}{ld:List (LD α)}{fr:α}{es:Nat→q9}{ss:Nat→S}{i:Nat}{e1:q9}{s1:S}(h:LdOk P all M ld fr es ss i):LdOk P all M ld fr (ext es i e1) (ext ss i s1) (i+1):=by
 intro d hd
 obtain⟨h1,t,x,h2,h3,h4,h5⟩:=h d hd
 refine⟨by omega,t,x,h2,h3,h4,?_⟩
 rw[vX (by omega),vX (by omega),G0 (fun j hj=>vX (by omega))]
 exact h5
def ZF(P:Program)(all:List Oper)(M:List Nat)(es:Nat→q9)(ss:Nat→S):Prop:=
 ∀j u,(j,u)∈ldP P all M→ ∀t x,(qz all j).op= .load t x→jf all (es j) (qz all j).guard=some true→ ∃w,w≠ .und∧
  (j4 P (rmK (ss j).m (zOf P ss all M j)) t (qa (es j) x)).res=w∧(j4 P (ss u).m t (qa (es j) x)).res=w∧(j4 P (ss (u+1)).m t (qa (es j) x)).res=w
end
end
noncomputable section
theorem FC{α:Type}{a b:N16 α}(h: ∀d,a.get d=b.get d):a=b:=by
 have h0:=h .d0;have h1:=h .d1;have h2:=h .d2;have h3:=h .d3;have h4:=h .d4;have h5:=h .d5;have h6:=h .d6;have h7:=h .d7
 have h8:=h .d8;have h9:=h .d9;have h10:=h .d10;have h11:=h .d11;have h12:=h .d12;have h13:=h .d13;have h14:=h .d14;have h15:=h .d15
 cases a;cases b
 simp only[N16.get]at*
 simp_all
theorem XD{α:Type}{a b:M4 α}(h: ∀k,mget a k=mget b k):a=b:=
 FC fun w=>FC fun x=>FC fun y=>FC fun z=>h ⟨w,x,y,z⟩
theorem q0u(m:qM)(z:List Key):reK m (rmK m z) z=m:=by
 refine XD fun k=>?_
 rw[Av,wk]
 by_cases h:k∈z
 ·cases hk:mget m k with
  |none=>simp[h]
  |some b=>simp[h]
 ·simp[h]
section
variable {v2:V} {s2:S} {γ:Type} {P:Program} {pr:vw} {rg:RG γ} {loc:Nat} {c:γ} {rc:FuncId→List V→S→RO}
theorem LM{g:Bool}{sz:Nat}{m:qM}{p:V}{K:V→RO}{t:TypeId}(ht:qy P t=some (g,sz))(hs:g=false→sz=1)(h:z3 g sz m p K= .ok v2 s2): ∃u ks,u≠ .und∧K u= .ok v2 s2∧j4 P m t p= .val u ks:=by
 obtain⟨u,ks,h1,h2,h3⟩:=Fy (P:=P) (part:=fun v' o=>wn g sz v' o K) ht (fun v' o ks h=>Md ks hs h) h
 exact⟨u,ks,h1,h2,h3⟩
theorem Gs{α:Type}{hs:List (Option (GS α))}{fr:α}{ss ss':Nat→S}{n:Nat}(h:HsOk hs fr ss n)(he: ∀j,j<n→ss' j=ss j):HsOk hs fr ss' n:=by
 refine⟨h.1,fun u g hg=>?_⟩
 have hu:u<n:=by
  rw[←h.1]
  exact(List.getElem?_eq_some_iff.1 hg).1
 rw[he u hu];exact h.2 u g hg
theorem NY{α:Type}{all:List Oper}{M:List Nat}{ld:List (LD α)}{fr:α}{es:Nat→q9}{ss:Nat→S}{i:Nat}{d:LD α}(h:LdOk P all M ld fr es ss (i+1))(hd:d.i<i+1∧ ∃t x,(qz all d.i).op= .load t x∧qy P t=some (d.g,d.sz)∧(d.g=false→d.sz=1)∧
  ((d.sk=true∧jf all (es d.i) (qz all d.i).guard=some false)∨(d.sk=false∧d.p fr=qa (es d.i) x∧d.v fr≠ .und∧(j4 P (rmK (ss d.i).m (zOf P ss all M d.i)) t (qa (es d.i) x)).res=d.v fr))):
  LdOk P all M (d::ld) fr es ss (i+1):=by
 intro d' hd'
 rcases q1i.1 hd' with rfl|hd'
 ·exact hd
 ·exact h d' hd'
theorem RX{all:List Oper}{o:Oper}{e:q9}{s:S}{e1:q9}{s1:S}(h:StepR rc P all o e s e1 s1):Cs rc P all [] o e s e1 s1:=by
 rcases h with h|⟨h1,v,_,h2,h3⟩
 ·exact .inl h
 ·exact .inr ⟨h1,v,s1,h2,h3,rfl⟩
def GW(rc:FuncId→List V→S→RO)(P:Program)(all:List Oper)(M:List Nat)(loc:Nat)(i:Nat)(rest:Dk γ)(c:γ)(es:Nat→q9)(ss:Nat→S)(v2:V)(s2:S):Prop:=
 ∃e1 s1,∃(β:Type)(mβ:Mp β)(Dβ:Nat)(hsβ:List (Option (GS β)))(ldβ:List (LD β))(fb:β)(eb:q9),
  Cs rc P all (zOf P ss all M i) (qz all i) (es i) (ss i) e1 s1∧A5 (es i) e1∧(∀t,(qz all i).dst=some t→slot e1 t≠ .und)∧Inv loc Dβ mβ fb eb e1∧HsOk hsβ fb ss (i+1)∧
  LdOk P all M ldβ fb (ext es i e1) (ext ss i s1) (i+1)∧(rest β mβ Dβ hsβ ldβ).f c fb eb s1= .ok v2 s2
theorem G2 {all : List Oper} {M : List Nat} {i : Nat} {rest : Dk γ} {α : Type} {m1 : Mp α} {D : Nat} {hs1 : List (Option (GS α))} {ld1 : List (LD α)} {fr : α} {e' : q9} {es : Nat → q9} {ss : Nat → S}
  (hr : RcLe pr (rg.f c) rc) (hd : ∀ t, (qz all i).dst = some t → t < 256) (hi : Inv loc D m1 fr e' (es i)) (hh : HsOk hs1 fr ss (i + 1)) (hl : LdOk P all M ld1 fr es ss i)
  (h : (Ao P pr rg loc all M i (qz all i) rest m1 D hs1 ld1).f c fr e' (ss i) = .ok v2 s2) : GW rc P all M loc i rest c es ss v2 s2 := by
 have plain : unz P all M i = [] → (Du P pr rg loc D m1 (fun β pr mβ Dβ => rest β mβ Dβ (hs1.map fun h => h.map fun h => h.by pr) (ld1.map fun h => h.by pr)) all (qz all i)).f c fr e' (ss i) = .ok v2 s2 → GW rc P all M loc i rest c es ss v2 s2 := by
  intro hz h
  obtain ⟨e1, s1, h1, β, p, mb, Db, fb, eb, hp, h2, h3⟩ := L8 hr hd hi h
  obtain ⟨k1, k2⟩ := h1.keeps hd
  refine ⟨e1, s1, β, mb, Db, _, _, fb, eb, ?_, k1, k2, h2, Ko hh hp, ?_, h3⟩
  ·have : zOf P ss all M i = [] := by unfold zOf; rw [hz]; rfl
   rw [this]; exact RX h1
  ·exact Kt (EH hl) hp
 have skip : ∀ {ld2 : List (LD α)} {e1' : q9}, jf all (es i) (qz all i).guard = some false → Inv loc (skD D (qz all i).dst) (skM m1 (qz all i).dst) fr e1' (ji (es i) (qz all i).dst (.tu [])) →
   LdOk P all M ld2 fr (ext es i (ji (es i) (qz all i).dst (.tu []))) (ext ss i (ss i)) (i + 1) → (rest α (skM m1 (qz all i).dst) (skD D (qz all i).dst) hs1 ld2).f c fr e1' (ss i) = .ok v2 s2 → GW rc P all M loc i rest c es ss v2 s2 := by
  intro ld2 e1' hg hi2 hl2 h
  have st : StepR rc P all (qz all i) (es i) (ss i) (ji (es i) (qz all i).dst (.tu [])) (ss i) := .inl ⟨hg, rfl, rfl⟩
  obtain ⟨k1, k2⟩ := st.keeps hd
  exact ⟨_, ss i, α, _, _, hs1, ld2, fr, e1', .inl ⟨hg, rfl, rfl⟩, k1, k2, hi2, hh, hl2, h⟩
 unfold Ao at h
 split at h
 ·rename_i t x hop
  have special : (match gv loc D m1 x, qy P t, zGet hs1 (unz P all M i) with
    | some ⟨g⟩, some (gg, sz), some ⟨zg⟩ => bif gg || Nat.beq sz 1 then gdC loc D m1 all (qz all i)
     (match finV (γ := γ) (α := Fm (Fm α)) loc D (upM (upM m1)) (fun β (pr : β → Fm (Fm α)) mβ Dβ => rest β mβ Dβ (hs1.map fun (h : Option (GS α)) => h.map fun (h : GS α) => h.by fun (x : β) => (pr x).r.r) (⟨i, false, gg, sz, fun fr => (pr fr).r.v, fun fr => (pr fr).v⟩ :: ld1.map fun (h : LD α) => h.by fun (x : β) => (pr x).r.r)) (qz all i).dst ⟨fun fr _ _ K => K fr.v⟩ with
      | ⟨k⟩ => ⟨fun c fr e s => qF (g fr e) fun p => z3 gg sz (rmK s.m (zg fr)) p fun v => k c ⟨v, ⟨p, fr⟩⟩ e s⟩)
     (rest α (skM m1 (qz all i).dst) (skD D (qz all i).dst) hs1 (⟨i, true, gg, sz, fun _ => .und, fun _ => .und⟩ :: ld1)) else badC
    | _, _, _ => badC).f c fr e' (ss i) = .ok v2 s2 → GW rc P all M loc i rest c es ss v2 s2 := by
   intro h
   split at h
   ·rename_i g gg sz zg hg hsh hzg
    cases hb : (gg || Nat.beq sz 1) with
    | false => rw [hb, cond_false] at h; cases h
    | true =>
     rw [hb, cond_true] at h
     have hsz : gg = false → sz = 1 := fun h => by rw [h, Bool.false_or] at hb; exact q1B hb
     rcases Lo hd hi h with ⟨hgd, h2⟩ | ⟨hgd, e1', h2, h3⟩
     ·generalize hk : finV (γ := γ) (α := Fm (Fm α)) loc D (upM (upM m1)) (fun β (pr : β → Fm (Fm α)) mβ Dβ => rest β mβ Dβ (hs1.map fun (h : Option (GS α)) => h.map fun (h : GS α) => h.by fun (x : β) => (pr x).r.r) (⟨i, false, gg, sz, fun fr => (pr fr).r.v, fun fr => (pr fr).v⟩ :: ld1.map fun (h : LD α) => h.by fun (x : β) => (pr x).r.r)) (qz all i).dst ⟨fun fr _ _ K => K fr.v⟩ = q at h2
      obtain ⟨k⟩ := q
      obtain ⟨hp, h2⟩ := AN (show qF (g fr e') _ = .ok v2 s2 from h2)
      have hge : g fr e' = qa (es i) x := qL hg hi
      have hze : zg fr = zOf P ss all M i := Jb hh hzg
      rw [hge] at h2 hp
      rw [hze] at h2
      obtain ⟨u, ks, hu, h3, h4⟩ := LM hsh hsz h2
      have h3 : (finV (γ := γ) (α := Fm (Fm α)) loc D (upM (upM m1)) (fun β (pr : β → Fm (Fm α)) mβ Dβ => rest β mβ Dβ (hs1.map fun (h : Option (GS α)) => h.map fun (h : GS α) => h.by fun (x : β) => (pr x).r.r) (⟨i, false, gg, sz, fun fr => (pr fr).r.v, fun fr => (pr fr).v⟩ :: ld1.map fun (h : LD α) => h.by fun (x : β) => (pr x).r.r)) (qz all i).dst ⟨fun fr _ _ K => K fr.v⟩).f c ⟨u, ⟨qa (es i) x, fr⟩⟩ e' (ss i) = .ok v2 s2 := by rw [hk]; exact h3
      obtain ⟨K, h5, h6⟩ := NE hd (QU u (QU (qa (es i) x) hi)) h3
      obtain ⟨β, p, mb, Db, fb, eb, hpf, h7, h8⟩ := h6 u hu h5
      have st : Cs rc P all (zOf P ss all M i) (qz all i) (es i) (ss i) (ji (es i) (qz all i).dst u) (ss i) := by
       refine .inr ⟨hgd, u, ⟨rmK (ss i).m (zOf P ss all M i), (ss i).nx, (ss i).dn, (ss i).sc⟩, ?_, rfl, ?_⟩
       ·rw [hop]
        show ap _ (j4 P _ t _) = _
        rw [h4]; rfl
       ·rw [q0u]
      refine ⟨_, ss i, β, mb, Db, _, _, fb, eb, st, EF hd hu, fun t' ht' => ?_, h7, ?_, ?_, h8⟩
      ·rw [ht', j8 (hd t' ht'), if_pos rfl]; exact hu
      ·exact Ko (p := fun x => (p x).r.r) hh (by show (p fb).r.r = fr; rw [hpf])
      ·refine NY (Kt (p := fun x => (p x).r.r) (EH hl) (by show (p fb).r.r = fr; rw [hpf])) ⟨by show i < i + 1; omega, t, x, hop, hsh, hsz, .inr ⟨rfl, ?_, ?_, ?_⟩⟩
       ·show (p fb).r.v = qa (ext es i _ i) x
        rw [hpf, vX (q1G _)]
       ·show (p fb).v ≠ .und
        rw [hpf]; exact hu
       ·show (j4 P (rmK (ext ss i _ i).m (zOf P (ext ss i _) all M i)) t (qa (ext es i _ i) x)).res = (p fb).v
        rw [vX (q1G _), vX (q1G _), G0 (fun j hj => vX (by omega)), h4, hpf]; rfl
     ·refine skip hgd h2 (NY (EH hl) ⟨by show i < i + 1; omega, t, x, hop, hsh, hsz, .inl ⟨rfl, ?_⟩⟩) h3
      show jf all (ext es i _ i) _ = _
      rw [vX (q1G _)]; exact hgd
   ·cases h
  cases hz : unz P all M i with
  | nil =>
   cases hany : (ldP P all M).any (fun q => Nat.beq q.1 i) with
   | false => rw [hz, hany] at h; exact plain hz h
   | true => rw [hz, hany] at h; rw [hz] at special; exact special h
  | cons u us => rw [hz] at h special; exact special h
 ·cases hz : unz P all M i with
  | nil => rw [hz] at h; exact plain hz h
  | cons u us =>
   rw [hz] at h
   simp only at h
   rw [← hz] at h
   split at h
   ·rename_i hop zg hcomp hzg
    rcases Lo hd hi h with ⟨hgd, h2⟩ | ⟨hgd, e1', h2, h3⟩
    ·obtain ⟨K, h3, h4⟩ := ND hd hi h2
     have hze : zg fr = zOf P ss all M i := Jb hh hzg
     have h3 : hop c fr e' ⟨rmK (ss i).m (zg fr), (ss i).nx, (ss i).dn, (ss i).sc⟩ (fun v s2 => K v (Ux (ss i) (zg fr) s2)) = .ok v2 s2 := h3
     obtain ⟨v, s1, hv, h5, h6⟩ := La hr hcomp hi h3
     obtain ⟨β, p, mb, Db, fb, eb, hpf, h7, h8⟩ := h4 v _ hv h6
     rw [hze] at h5 h8
     refine ⟨_, _, β, mb, Db, _, _, fb, eb, .inr ⟨hgd, v, s1, h5, rfl, rfl⟩, EF hd hv, fun t' ht' => ?_, h7, Ko hh hpf, Kt (EH hl) hpf, h8⟩
     rw [ht', j8 (hd t' ht'), if_pos rfl]; exact hv
    ·exact skip hgd h2 (EH hl) h3
   ·cases h
theorem P8{all:List Oper}{M:List Nat}{i:Nat}{rest:Dk γ}{α:Type}{m:Mp α}{D:Nat}{hs:List (Option (GS α))}{ld:List (LD α)}{fr:α}{e':q9}{es:Nat→q9}{ss:Nat→S}
  (hr:RcLe pr (rg.f c) rc)(hd: ∀t,(qz all i).dst=some t→t<256)(hi:Inv loc D m fr e' (es i))(hh:HsOk hs fr ss i)(hl:LdOk P all M ld fr es ss i)
  (h:(Fh P pr rg loc all M i (qz all i) rest m D hs ld).f c fr e' (ss i)= .ok v2 s2):GW rc P all M loc i rest c es ss v2 s2:=by
 unfold Fh at h
 have cg: ∀{s1:S}{j:Nat},j<i+1→ss j=ext ss i s1 j:=fun hj=>(vX (by omega)).symm
 cases hn:Ui P all M i with
 |true=>
  rw[hn,cond_true]at h
  generalize hk:Ao P pr rg loc all M i (qz all i) rest (m.map fun p=>(p.1,p.2.us)) D ((hs.map fun h=>h.map fun h=>h.by fun f=>f.r)++[some ⟨fun fr=>fr.s⟩]) (ld.map fun h=>h.by fun f=>f.r)=q at h
  obtain⟨f⟩:=q
  have h:(Ao P pr rg loc all M i (qz all i) rest (m.map fun p=>(p.1,p.2.us)) D ((hs.map fun h=>h.map fun h=>h.by fun f=>f.r)++[some ⟨fun fr=>fr.s⟩]) (ld.map fun h=>h.by fun f=>f.r)).f c (⟨ss i,fr⟩:Fs α) e' (ss i)= .ok v2 s2:=by rw[hk];exact h
  refine G2 hr hd (Xv (ss i) hi) ?_ (Kt hl rfl) h
  exact Gs (QR (s1:=ss i) (Ko hh (p:=fun f:Fs α=>f.r) (fb:=⟨ss i,fr⟩) rfl) (.inr ⟨⟨fun fr=>fr.s⟩,rfl,rfl⟩)) fun j hj=>cg hj
 |false=>
  rw[hn,cond_false]at h
  exact G2 hr hd hi (Gs (QR (s1:=ss i) hh (.inl rfl)) fun j hj=>cg hj) hl h
end
end
noncomputable section
section
variable {v2:V} {s2:S} {γ:Type} {P:Program} {pr:vw} {rg:RG γ} {loc:Nat} {c:γ} {rc:FuncId→List V→S→RO}
theorem Rl{all:List Oper}{i:Nat}{o:Oper}{r:List Oper}(h:o::r=all.drop i):qz all i=o∧r=all.drop (i+1)∧i<all.length:=by
 have h1:all[i]?=some o:=by
  have:(all.drop i)[0]?=some o:=by rw[←h];rfl
  rw[q15]at this;simpa using this
 refine⟨by unfold qz;rw[q12,h1];rfl,?_,(List.getElem?_eq_some_iff.1 h1).1⟩
 have:(all.drop i).drop 1=all.drop (i+1):=by rw[q0X]
 rw[←this,←h];rfl
theorem Jn{nrm:CK γ}{all:List Oper}{M:List Nat}(hr:RcLe pr (rg.f c) rc)(hd: ∀o∈all,∀t,o.dst=some t→t<256):
  ∀(l:List Oper)(i:Nat),l=all.drop i→i≤all.length→ ∀{α:Type}{m:Mp α}{D:Nat}{hs:List (Option (GS α))}{ld:List (LD α)}{fr:α}{e':q9}(es:Nat→q9)(ss:Nat→S),
  Inv loc D m fr e' (es i)→HsOk hs fr ss i→LdOk P all M ld fr es ss i→(CQ P pr rg loc nrm all M l i α m D hs ld).f c fr e' (ss i)= .ok v2 s2→
  ∃es' ss' e1',(∀j,j≤i→es' j=es j∧ss' j=ss j)∧(∀t,Nat.testBit loc t=false→slot e1' t=slot (es' all.length) t)∧A5 (es i) (es' all.length)∧(∀o∈l,∀t,o.dst=some t→slot (es' all.length) t≠ .und)∧
   (∀j,i≤j→j<all.length→Cs rc P all (zOf P ss' all M j) (qz all j) (es' j) (ss' j) (es' (j+1)) (ss' (j+1)))∧ZF P all M es' ss'∧nrm.f c e1' (ss' all.length)= .ok v2 s2
 |[],i,hl,hile,α,m,D,hs,ld,fr,e',es,ss,hi,hh,hld,h=>by
  have hin:i=all.length:=by
   have:=congrArg List.length hl
   simp at this;omega
  subst hin
  have h:(match chkL all.length hs ld (ldP P all M),nrm with|some ⟨b⟩,⟨f⟩=>(⟨fun c fr e s=>b fr s (f c e s)⟩:CF γ α)|none,_=>badC).f c fr e' (ss all.length)= .ok v2 s2:=h
  split at h
  ·rename_i b _ hb f
   obtain⟨h1,h2⟩:=Ff (P:=P) hb (show b fr (ss all.length) _= .ok v2 s2 from h)
   refine⟨es,ss,e',fun j _=>⟨rfl,rfl⟩,hi.ag,fun t h=>h,fun o ho=>(by simp at ho),fun j h1 h2=>by omega,fun j u hju t x hop hg=>?_,h1⟩
   obtain⟨d,g,h3,h4,h5⟩:=h2 (j,u) hju
   obtain⟨hmem,rfl⟩:=Ll h3
   obtain⟨_,t',x',q1,q2,q3,q4⟩:=hld d hmem
   rw[hop]at q1
   injection q1 with e1 e2
   subst e1;subst e2
   rcases q4 with⟨k1,k2⟩|⟨k1,k2,k3,k4⟩
   ·rw[k2]at hg;cases hg
   ·rcases h5 with h5|⟨h5,h6⟩
    ·rw[k1]at h5;cases h5
    ·refine⟨d.v fr,k3,k4,?_,?_⟩
     ·have:=h5 q3 q3 t q2
      rwa [hh.2 u g h4,k2]at this
     ·rcases h6 with⟨e3,h6⟩|⟨g',h6,h7⟩
      ·have:=h6 q3 q3 t q2
       simp only at e3
       rwa [←e3,k2]at this
      ·have:=h7 q3 q3 t q2
       rwa [hh.2 _ g' h6,k2]at this
  ·cases h
 |o::r,i,hl,hile,α,m,D,hs,ld,fr,e',es,ss,hi,hh,hld,h=>by
  obtain⟨ho,hr2,hlt⟩:=Rl hl
  have hmem:qz all i∈all:=by
   have:o∈all:=List.mem_of_mem_drop (i:=i) (by rw[←hl];simp)
   rw[ho];exact this
  have h:(Fh P pr rg loc all M i o (CQ P pr rg loc nrm all M r (i+1)) m D hs ld).f c fr e' (ss i)= .ok v2 s2:=h
  rw[←ho]at h
  obtain⟨e1,s1,β,mb,Db,hsb,ldb,fb,eb,h1,h2,h3,h4,h5,h6,h7⟩:=P8 hr (hd _ hmem) hi hh hld h
  have x1:ext es i e1 (i+1)=e1:=Qz
  have x2:ext ss i s1 (i+1)=s1:=Qz
  obtain⟨es',ss',e1',g1,g2,g3,g4,g5,g6,g7⟩:=Jn (nrm:=nrm) hr hd r (i+1) hr2 hlt (es:=ext es i e1) (ss:=ext ss i s1) (by rw[x1];exact h4) (Gs h5 fun j hj=>vX (by omega)) h6 (by rw[x2];exact h7)
  rw[x1]at g3
  have y1: ∀j,j≤i→es' j=es j∧ss' j=ss j:=fun j hj=>⟨(g1 j (by omega)).1.trans (vX hj),(g1 j (by omega)).2.trans (vX hj)⟩
  refine⟨es',ss',e1',y1,g2,fun t ht=>g3 t (h2 t ht),fun o' ho' t ht=>?_,fun j hj1 hj2=>?_,g6,g7⟩
  ·rcases q1i.1 ho' with rfl|ho'
   ·exact g3 t (h3 t (by rw[ho];exact ht))
   ·exact g4 o' ho' t ht
  ·by_cases hj:j=i
   ·subst hj
    rw[(y1 j (q1G _)).1,(y1 j (q1G _)).2,(g1 (j+1) (q1G _)).1,(g1 (j+1) (q1G _)).2,x1,x2,G0 (fun k hk=>(y1 k (by omega)).2)]
    exact h1
   ·exact g5 j (by omega) hj2
theorem RU{all:List Oper}{z:List Key}{o:Oper}{e:q9}{s:S}{e1 e2:q9}{s1 s2:S}(h1:Cs rc P all z o e s e1 s1)(h2:Cs rc P all z o e s e2 s2):e1=e2∧s1=s2:=by
 rcases h1 with⟨g1,rfl,rfl⟩|⟨g1,v,t,r1,rfl,rfl⟩<;>rcases h2 with⟨g2,rfl,rfl⟩|⟨g2,v2,t2,r2,rfl,rfl⟩
 ·exact⟨rfl,rfl⟩
 ·rw[g1]at g2;cases g2
 ·rw[g1]at g2;cases g2
 ·rw[r1]at r2;cases r2;exact⟨rfl,rfl⟩
theorem N8{all:List Oper}{e e1 e2:q9}{s s1 s2:S}{es es2:Nat→q9}{ss ss2:Nat→S}(h1:DrawOk rc P all e s e1 s1 es ss)(h2:DrawOk rc P all e s e2 s2 es2 ss2):e1=e2∧s1=s2:=by
 have key: ∀i,i≤all.length→ ∀j,j≤i→es j=es2 j∧ss j=ss2 j:=by
  intro i
  induction i with
  |zero=>
   intro _ j hj
   have:j=0:=by omega
   subst this
   exact⟨h1.e0.trans h2.e0.symm,h1.s0.trans h2.s0.symm⟩
  |succ i ih=>
   intro hi j hj
   have ih:=ih (by omega)
   by_cases h:j=i+1
   ·subst h
    have a:=h1.step i (by omega)
    have b:=h2.step i (by omega)
    rw[(ih i (q1G _)).1,(ih i (q1G _)).2,G0 (ss:=ss2) (fun k hk=>(ih k (by omega)).2)]at a
    exact RU a b
   ·exact ih j (by omega)
 have:=key all.length (q1G _) all.length (q1G _)
 exact⟨h1.en.symm.trans (this.1.trans h2.en),h1.sn.symm.trans (this.2.trans h2.sn)⟩
theorem SA{nrm:CK γ}{ops:List Oper}{D:Nat}{e' e:q9}{s:S}(hr:RcLe pr (rg.f c) rc)(hd: ∀o∈ops,∀t,o.dst=some t→t<256)(hst:E4 P ops (masks 0 ops [])=true)
  (hag: ∀t,Nat.testBit loc t=false→slot e' t=slot e t)(hdf: ∀t,Nat.testBit D t=true→slot e t≠ .und)(h:(P7 P pr rg loc nrm D ops).f c e' s= .ok v2 s2):
  ∃e1 s1 e1',runD rc P ops e s= .ok .nrm e1 s1∧(∀t,Nat.testBit loc t=false→slot e1' t=slot e1 t)∧A5 e e1∧(∀o∈ops,∀t,o.dst=some t→slot e1 t≠ .und)∧nrm.f c e1' s1= .ok v2 s2:=by
 have h:(match CQ P pr rg loc nrm ops (masks 0 ops []) ops 0 Unit [] D [] []with|⟨f⟩=>(⟨fun c e s=>tramp (f c () e s)⟩:CK γ)).f c e' s= .ok v2 s2:=h
 generalize hk:CQ P pr rg loc nrm ops (masks 0 ops []) ops 0 Unit [] D [] []=q at h
 obtain⟨f⟩:=q
 have h:(CQ P pr rg loc nrm ops (masks 0 ops []) ops 0 Unit [] D [] []).f c () e' s= .ok v2 s2:=by rw[hk];exact h
 obtain⟨es,ss,e1',g1,g2,g3,g4,g5,g6,g7⟩:=Jn hr hd ops 0 rfl (q23 _) (fun _=>e) (fun _=>s) (Fq hag hdf) ⟨rfl,fun u g h=>by simp at h⟩ (fun d hd=>by simp at hd) h
 have hD:DrawOk rc P ops e s (es ops.length) (ss ops.length) es ss:=⟨(g1 0 (q1G _)).1,(g1 0 (q1G _)).2,rfl,rfl,hst,fun i hi=>g5 i (q23 _) hi,g6⟩
 have hex: ∃p:q9×S,∃es ss,DrawOk rc P ops e s p.1 p.2 es ss:=⟨(es ops.length,ss ops.length),es,ss,hD⟩
 refine⟨es ops.length,ss ops.length,e1',?_,g2,g3,g4,g7⟩
 obtain⟨es0,ss0,hch⟩:=Classical.choose_spec hex
 have hu:=N8 hch hD
 unfold runD
 rw[dif_pos hex,hu.1,hu.2]
theorem SC{nrm:CK γ}{ops:List Oper}{D:Nat}{e' e:q9}{s:S}(hr:RcLe pr (rg.f c) rc)(hd: ∀o∈ops,∀t,o.dst=some t→t<256)
  (hag: ∀t,Nat.testBit loc t=false→slot e' t=slot e t)(hdf: ∀t,Nat.testBit D t=true→slot e t≠ .und)(h:(P9 P pr rg loc nrm D ops).f c e' s= .ok v2 s2):
  ∃e1 s1 e1',wD rc P ops ops e s= .ok .nrm e1 s1∧(∀t,Nat.testBit loc t=false→slot e1' t=slot e1 t)∧A5 e e1∧(∀o∈ops,∀t,o.dst=some t→slot e1 t≠ .und)∧nrm.f c e1' s1= .ok v2 s2:=by
 have h:(match Bq P pr rg loc nrm ops ops Unit [] D with|⟨f⟩=>(⟨fun c e s=>tramp (f c () e s)⟩:CK γ)).f c e' s= .ok v2 s2:=h
 generalize hk:Bq P pr rg loc nrm ops ops Unit [] D=q at h
 obtain⟨f⟩:=q
 have h:(Bq P pr rg loc nrm ops ops Unit [] D).f c () e' s= .ok v2 s2:=by rw[hk];exact h
 exact Hd hr ops hd (Fq hag hdf) h
end
end
noncomputable section
def z9(P:Program):Code→Bool
 | .region _ ops dr=>!dr||E4 P ops.toList (masks 0 ops.toList [])
 | .seq a b=>z9 P a&&z9 P b
 | .cond _ a b=>z9 P a&&z9 P b
 | .block _ a=>z9 P a
 | .loop a=>z9 P a
 |_=>true
theorem SG{n:Nat}{o:Oper}(h:vW n o=true): ∀t,o.dst=some t→t<256:=fun t ht=>by
 unfold vW at h
 rw[ht]at h
 simp only[q0Q]at h
 simpa using h.2
theorem Ln{t:Nat}: ∀{l:List Oper}{D:Nat},Nat.testBit (l.foldl (fun D o=>skD D o.dst) D) t=true→Nat.testBit D t=true∨ ∃o∈l,o.dst=some t
 |[],D,h=> .inl h
 |o::l,D,h=>by
  rcases Ln (l:=l) h with h|⟨o',h1,h2⟩
  ·have h:Nat.testBit (skD D o.dst) t=true:=h
   cases ho:o.dst with
   |none=>rw[ho]at h;exact .inl h
   |some d=>
    rw[ho]at h
    have h:Nat.testBit (D|||2^d) t=true:=h
    rw[Nat.testBit_or,Nat.testBit_two_pow,Bool.or_eq_true]at h
    rcases h with h|h
    ·exact .inl h
    ·exact .inr ⟨o,by simp,by rw[ho,of_decide_eq_true h]⟩
  ·exact .inr ⟨o',by simp[h1],h2⟩
def nxt{γ:Type}(nrm:CK γ)(ex:Exs γ)(ret:CK γ):X→CK γ
 | .nrm=>nrm
 | .ext i=>Be i ex
 | .ret=>ret
theorem Hj{γ:Type}(i:Nat): ∀ex:Exs γ,Be i (ex.map fun p=>(p.1,p.2.lift))=(Be i ex).lift
 |[]=>rfl
 |p::r=>by
  show(bif Nat.beq p.1 i then p.2.lift else Be i (r.map fun p=>(p.1,p.2.lift)))=CK.lift (bif Nat.beq p.1 i then p.2 else Be i r)
  cases Nat.beq p.1 i with
  |true=>rfl
  |false=>exact Hj i r
theorem R0{γ:Type}(x:CK γ)(ih:q9→S→RO)(c:γ)(e:q9)(s:S):x.lift.f ⟨ih,c⟩ e s=x.f c e s:=by obtain⟨f⟩:=x;rfl
theorem Vz{γ:Type}(x:RG γ)(ih:q9→S→RO)(c:γ):x.lift.f ⟨ih,c⟩=x.f c:=by obtain⟨f⟩:=x;rfl
section
variable {v2:V} {s2:S} {P:Program} {pr:vw} {loc:Nat} {rc:FuncId→List V→S→RO}
def FdOk(P:Program)(pr:vw)(loc:Nat)(rc:FuncId→List V→S→RO)(v2:V)(s2:S)(cd:Code):Prop:=
 ∀(γ:Type)(rg:RG γ)(D:Nat)(nrm:CK γ)(ex:Exs γ)(ret:CK γ)(c:γ)(n:Nat)(e' e:q9)(s:S),RcLe pr (rg.f c) rc→jz n cd=true→z9 P cd=true→
  (∀t,Nat.testBit loc t=false→slot e' t=slot e t)→(∀t,Nat.testBit D t=true→slot e t≠ .und)→((fden P pr loc cd).d γ rg D nrm ex ret).f c e' s= .ok v2 s2→
  ∃x e1 s1 e1',den rc P cd e s= .ok x e1 s1∧(∀t,Nat.testBit loc t=false→slot e1' t=slot e1 t)∧A5 e e1∧(x= .nrm→ ∀t,Nat.testBit ((fden P pr loc cd).o D) t=true→slot e1 t≠ .und)∧(nxt nrm ex ret x).f c e1' s1= .ok v2 s2
theorem O0{cd:Code}(hcd:FdOk P pr loc rc v2 s2 cd){γ:Type}{rg:RG γ}{D:Nat}{nrm:CK γ}{ex:Exs γ}{ret:CK γ}{c:γ}{n:Nat}(hr:RcLe pr (rg.f c) rc)(hk:jz n cd=true)(hst:z9 P cd=true){f:LC γ→q9→S→RO}
  (hf:(fden P pr loc cd).d (LC γ) rg.lift D ⟨fun c e s=>tramp (c.ih e s)⟩ (ex.map fun p=>(p.1,p.2.lift)) ret.lift=⟨f⟩): ∀(N:Nat)(e' e:q9)(s:S),(∀t,Nat.testBit loc t=false→slot e' t=slot e t)→(∀t,Nat.testBit D t=true→slot e t≠ .und)→
  Fz (fun ih e s=>f ⟨ih,c⟩ e s) N e' s= .ok v2 s2→
  ∃x e1 s1 e1',DN (den rc P cd) N e s= .ok x e1 s1∧x≠ .nrm∧(∀t,Nat.testBit loc t=false→slot e1' t=slot e1 t)∧A5 e e1∧(nxt nrm ex ret x).f c e1' s1= .ok v2 s2
 |0,e',e,s,hag,hdf,h=>by cases h
 |N+1,e',e,s,hag,hdf,h=>by
  have h:f ⟨Fz (fun ih e s=>f ⟨ih,c⟩ e s) N,c⟩ e' s= .ok v2 s2:=h
  obtain⟨x,e1,s1,e1',h1,h2,h3,h4,h5⟩:=hcd (LC γ) rg.lift D _ _ _ ⟨Fz (fun ih e s=>f ⟨ih,c⟩ e s) N,c⟩ n e' e s (by rw[Vz];exact hr) hk hst hag hdf (by rw[hf];exact h)
  have e0:DN (den rc P cd) (N+1) e s=KA (DN (den rc P cd) N) (den rc P cd e s):=rfl
  rw[e0,h1]
  cases x with
  |nrm=>
   obtain⟨x,e3,s3,e3',g1,g2,g3,g4,g5⟩:=O0 hcd hr hk hst hf N e1' e1 s1 h2 (fun t ht=>h3 t (hdf t ht)) h5
   exact⟨x,e3,s3,e3',g1,g2,g3,fun t ht=>g4 t (h3 t ht),g5⟩
  |ext i=>
   refine⟨_,e1,s1,e1',rfl,by simp,h2,h3,?_⟩
   have h5:(Be i (ex.map fun p=>(p.1,p.2.lift))).f _ e1' s1= .ok v2 s2:=h5
   rw[Hj,R0]at h5;exact h5
  |ret=>
   refine⟨_,e1,s1,e1',rfl,by simp,h2,h3,?_⟩
   have h5:ret.lift.f _ e1' s1= .ok v2 s2:=h5
   rw[R0]at h5;exact h5
theorem Aq: ∀cd:Code,FdOk P pr loc rc v2 s2 cd
 | .skip=>fun γ rg D nrm ex ret c n e' e s hr hk hst hag hdf h=>⟨.nrm,e,s,e',rfl,hag,fun t h=>h,fun _=>hdf,h⟩
 | .region id ops dr=>fun γ rg D nrm ex ret c n e' e s hr hk hst hag hdf h=>by
  have hd: ∀o∈ops.toList,∀t,o.dst=some t→t<256:=fun o ho=>SG (List.all_eq_true.1 (show ops.toList.all (vW n)=true from hk) o ho)
  have fin: ∀e1:q9,A5 e e1→(∀o∈ops.toList,∀t,o.dst=some t→slot e1 t≠ .und)→ ∀t,Nat.testBit (ops.toList.foldl (fun D o=>skD D o.dst) D) t=true→slot e1 t≠ .und:=fun e1 h1 h2 t ht=>by
   rcases Ln ht with h|⟨o,h3,h4⟩
   ·exact h1 t (hdf t h)
   ·exact h2 o h3 t h4
  cases dr with
  |false=>
   have h:(P9 P pr rg loc nrm D ops.toList).f c e' s= .ok v2 s2:=h
   obtain⟨e1,s1,e1',h1,h2,h3,h4,h5⟩:=SC hr hd hag hdf h
   exact⟨.nrm,e1,s1,e1',h1,h2,h3,fun _=>fin e1 h3 h4,h5⟩
  |true=>
   have h:(P7 P pr rg loc nrm D ops.toList).f c e' s= .ok v2 s2:=h
   have hst:E4 P ops.toList (masks 0 ops.toList [])=true:=hst
   obtain⟨e1,s1,e1',h1,h2,h3,h4,h5⟩:=SA hr hd hst hag hdf h
   exact⟨.nrm,e1,s1,e1',h1,h2,h3,fun _=>fin e1 h3 h4,h5⟩
 | .seq a b=>fun γ rg D nrm ex ret c n e' e s hr hk hst hag hdf h=>by
  simp only[jz,q0Q]at hk
  simp only[z9,q0Q]at hst
  have h:((fden P pr loc a).d γ rg D ((fden P pr loc b).d γ rg ((fden P pr loc a).o D) nrm ex ret) ex ret).f c e' s= .ok v2 s2:=h
  obtain⟨x,e1,s1,e1',h1,h2,h3,h4,h5⟩:=Aq a γ rg D _ ex ret c n e' e s hr hk.1 hst.1 hag hdf h
  have e0:den rc P (.seq a b) e s=KE (den rc P a e s) (den rc P b):=rfl
  rw[e0,h1]
  cases x with
  |nrm=>
   obtain⟨x,e3,s3,e3',g1,g2,g3,g4,g5⟩:=Aq b γ rg _ nrm ex ret c n e1' e1 s1 hr hk.2 hst.2 h2 (h4 rfl) h5
   exact⟨x,e3,s3,e3',g1,g2,fun t ht=>g3 t (h3 t ht),g4,g5⟩
  |ext i=>exact⟨_,e1,s1,e1',rfl,h2,h3,fun h=>(by cases h),h5⟩
  |ret=>exact⟨_,e1,s1,e1',rfl,h2,h3,fun h=>(by cases h),h5⟩
 | .cond x a b=>fun γ rg D nrm ex ret c n e' e s hr hk hst hag hdf h=>by
  simp only[jz,q0Q]at hk
  simp only[z9,q0Q]at hst
  have h:(match gv (α:=Unit) loc D [] x,(fden P pr loc a).d γ rg D nrm ex ret,(fden P pr loc b).d γ rg D nrm ex ret with
   |some ⟨g⟩,⟨fa⟩,⟨fb⟩=>(⟨fun c e s=>qB (g () e) fun b=> @Bool.rec (fun _=>RO) (fb c e s) (fa c e s) b⟩:CK γ)
   |none,_,_=>badK).f c e' s= .ok v2 s2:=h
  split at h
  ·rename_i _ _ _ g fa fb hg hfa hfb
   obtain⟨t,h1,h2⟩:=PO (show qB (g () e') _= .ok v2 s2 from h)
   have hx:g () e'=qa e x:=qL hg (Fq hag hdf)
   rw[hx]at h1
   have e0:den rc P (.cond x a b) e s=Kj (qa e x) (den rc P a) (den rc P b) e s:=rfl
   rw[e0,h1]
   cases t with
   |true=>
    obtain⟨x,e1,s1,e1',h1,h2,h3,h4,h5⟩:=Aq a γ rg D nrm ex ret c n e' e s hr hk.1 hst.1 hag hdf (by rw[hfa];exact h2)
    exact⟨x,e1,s1,e1',h1,h2,h3,fun _ t ht=>h3 t (hdf t ht),h5⟩
   |false=>
    obtain⟨x,e1,s1,e1',h1,h2,h3,h4,h5⟩:=Aq b γ rg D nrm ex ret c n e' e s hr hk.2 hst.2 hag hdf (by rw[hfb];exact h2)
    exact⟨x,e1,s1,e1',h1,h2,h3,fun _ t ht=>h3 t (hdf t ht),h5⟩
  ·cases h
 | .block id a=>fun γ rg D nrm ex ret c n e' e s hr hk hst hag hdf h=>by
  have hk:jz n a=true:=hk
  have hst:z9 P a=true:=hst
  have h:((fden P pr loc a).d γ rg D nrm ((id,nrm)::ex) ret).f c e' s= .ok v2 s2:=h
  obtain⟨x,e1,s1,e1',h1,h2,h3,h4,h5⟩:=Aq a γ rg D nrm _ ret c n e' e s hr hk hst hag hdf h
  have e0:den rc P (.block id a) e s=H9 id (den rc P a e s):=rfl
  rw[e0,h1]
  have hD: ∀t,Nat.testBit D t=true→slot e1 t≠ .und:=fun t ht=>h3 t (hdf t ht)
  cases x with
  |nrm=>exact⟨.nrm,e1,s1,e1',rfl,h2,h3,fun _=>hD,h5⟩
  |ret=>exact⟨.ret,e1,s1,e1',rfl,h2,h3,fun _=>hD,h5⟩
  |ext i=>
   have h5:(bif Nat.beq id i then nrm else Be i ex).f c e1' s1= .ok v2 s2:=h5
   show∃x e2 s2' e1'_1,@Bool.rec (fun _=>R) (.ok (.ext i) e1 s1) (.ok .nrm e1 s1) (Nat.beq i id)= .ok x e2 s2'∧_
   cases hb:Nat.beq i id with
   |true=>
    have:=q1B hb
    subst this
    rw[hb]at h5
    exact⟨.nrm,e1,s1,e1',rfl,h2,h3,fun _=>hD,h5⟩
   |false=>
    have hb2:Nat.beq id i=false:=by
     cases h:Nat.beq id i with
     |false=>rfl
     |true=>rw[q1B h]at hb;simp at hb
    rw[hb2]at h5
    exact⟨.ext i,e1,s1,e1',rfl,h2,h3,fun _=>hD,h5⟩
 | .loop a=>fun γ rg D nrm ex ret c n e' e s hr hk hst hag hdf h=>by
  have hk:jz n a=true:=hk
  have hst:z9 P a=true:=hst
  have h:(match(fden P pr loc a).d (LC γ) rg.lift D ⟨fun c e s=>tramp (c.ih e s)⟩ (ex.map fun(p:Nat×CK γ)=>(p.1,p.2.lift)) ret.lift with
   |⟨f⟩=>(⟨fun c e s=>Fz (fun ih e s=>f ⟨ih,c⟩ e s) 1000000 e s⟩:CK γ)).f c e' s= .ok v2 s2:=h
  generalize hf:(fden P pr loc a).d (LC γ) rg.lift D ⟨fun c e s=>tramp (c.ih e s)⟩ (ex.map fun(p:Nat×CK γ)=>(p.1,p.2.lift)) ret.lift=q at h
  obtain⟨f⟩:=q
  have h:Fz (fun ih e s=>f ⟨ih,c⟩ e s) 1000000 e' s= .ok v2 s2:=h
  obtain⟨x,e1,s1,e1',h1,h2,h3,h4,h5⟩:=O0 (nrm:=nrm) (Aq a) hr hk hst hf 1000000 e' e s hag hdf h
  exact⟨x,e1,s1,e1',h1,h3,h4,fun h=>absurd h h2,h5⟩
 | .exit id=>fun γ rg D nrm ex ret c n e' e s hr hk hst hag hdf h=>⟨.ext id,e,s,e',rfl,hag,fun t h=>h,fun _=>hdf,h⟩
 | .label l=>fun γ rg D nrm ex ret c n e' e s hr hk hst hag hdf h=>⟨.nrm,e,s,e',rfl,hag,fun t h=>h,fun _=>hdf,h⟩
 | .rangeFunc .. =>fun γ rg D nrm ex ret c n e' e s hr hk hst hag hdf h=>by cases h
 | .goto _=>fun γ rg D nrm ex ret c n e' e s hr hk hst hag hdf h=>by cases h
 | .scope _=>fun γ rg D nrm ex ret c n e' e s hr hk hst hag hdf h=>by cases h
 | .refuse _=>fun γ rg D nrm ex ret c n e' e s hr hk hst hag hdf h=>by cases h
 | .ret=>fun γ rg D nrm ex ret c n e' e s hr hk hst hag hdf h=>⟨.ret,e,s,e',rfl,hag,fun t h=>h,fun _=>hdf,h⟩
end
end
noncomputable section
section
variable {v2:V} {s2:S} {P:Program} {pr:vw} {loc:Nat} {rc:FuncId→List V→S→RO}
theorem Or{r:ResultVar}{g:RV}{e' e:q9}{s:S}{K:V→RO}(hc:resC P loc r=some g)(hag: ∀t,Nat.testBit loc t=false→slot e' t=slot e t)(h:g.f e' s K= .ok v2 s2):isC (v4 P e s.m r)=true∧K (v4 P e s.m r)= .ok v2 s2:=by
 have hi:Inv loc 0 ([]:Mp Unit) () e' e:=Fq hag (fun t h=>by simp at h)
 cases r with
 |tmp t=>
  unfold resC at hc
  simp only at hc
  split at hc
  ·rename_i gg hg
   cases hc
   have hx:gg () e'=slot e t:=qL hg hi
   have h:=PP (show qK (gg () e') K= .ok v2 s2 from h)
   rw[hx]at h
   exact h
  ·cases hc
 |cell a t=>
  unfold resC at hc
  simp only at hc
  split at hc
  ·rename_i gg g0 sz hg hs
   cases hb:(g0||Nat.beq sz 1)with
   |false=>rw[hb]at hc;cases hc
   |true=>
    rw[hb]at hc
    cases hc
    have hx:gg () e'=slot e a:=qL hg hi
    have hsz:g0=false→sz=1:=fun h=>by rw[h,Bool.false_or]at hb;exact q1B hb
    obtain⟨u,ks,h1,h2,h3⟩:=LM (P:=P) hs hsz (show z3 g0 sz s.m (gg () e') (fun v=>qK v K)= .ok v2 s2 from h)
    rw[hx]at h3
    have h4:=PP h2
    show isC (j4 P s.m t (slot e a)).res=true∧K (j4 P s.m t (slot e a)).res=_
    rw[h3];exact h4
  ·cases hc
theorem Ot{e' e:q9}{s:S}(hag: ∀t,Nat.testBit loc t=false→slot e' t=slot e t): ∀{l:List ResultVar}{g:RL}{K:List V→RO},resL P loc l=some g→g.f e' s K= .ok v2 s2→(l.map (v4 P e s.m)).all isC=true∧K (l.map (v4 P e s.m))= .ok v2 s2
 |[],g,K,hc,h=>by cases hc;exact⟨rfl,h⟩
 |r::l,g,K,hc,h=>by
  unfold resL at hc
  split at hc
  ·rename_i g1 g2 h1 h2
   cases hc
   obtain⟨k1,k2⟩:=Or h1 hag (show g1 e' s _= .ok v2 s2 from h)
   obtain⟨k3,k4⟩:=Ot hag h2 (show g2 e' s _= .ok v2 s2 from k2)
   exact⟨by rw[q1g,List.all_cons,k1,k3];rfl,k4⟩
  ·cases hc
theorem W1{γ:Type}{c:γ}{l:List ResultVar}{e' e:q9}{s:S}(hag: ∀t,Nat.testBit loc t=false→slot e' t=slot e t)(h:(retC P loc l).f c e' s= .ok v2 s2):v2≠ .und∧retA s (l.map (v4 P e s.m))= .ok v2 s2:=by
 have many: ∀l:List ResultVar,l.length≠1→(match resL P loc l with|some ⟨g⟩=>(⟨fun _ e s=>g e s fun l=> .ok (.tu l) s⟩:CK γ)|none=>badK).f c e' s= .ok v2 s2→v2≠ .und∧retA s (l.map (v4 P e s.m))= .ok v2 s2:=by
  intro l hl h
  split at h
  ·rename_i g hg
   obtain⟨k1,k2⟩:=Ot hag hg (show g e' s _= .ok v2 s2 from h)
   have k2:RO.ok (.tu (l.map (v4 P e s.m))) s= .ok v2 s2:=k2
   injection k2 with a b
   subst a;subst b
   refine⟨by simp,?_⟩
   unfold retA
   rw[k1]
   show retL s (l.map (v4 P e s.m))=_
   unfold retL
   split
   ·rename_i v hv
    have:=congrArg List.length hv
    rw[q1d]at this
    exact absurd this hl
   ·rfl
  ·cases h
 match l,h with
 |[],h=>exact many [] (by simp) h
 |[r],h=>
  have h:(match resC P loc r with|some ⟨g⟩=>(⟨fun _ e s=>g e s fun v=> .ok v s⟩:CK γ)|none=>badK).f c e' s= .ok v2 s2:=h
  split at h
  ·rename_i g hg
   obtain⟨k1,k2⟩:=Or hg hag (show g e' s _= .ok v2 s2 from h)
   have k2:RO.ok (v4 P e s.m r) s= .ok v2 s2:=k2
   injection k2 with a b
   subst a;subst b
   refine⟨fun e2=>(by rw[e2]at k1;cases k1),?_⟩
   unfold retA
   show @Bool.rec (fun _=>RO) _ _ (isC (v4 P e s.m r)&&true)=_
   rw[k1];rfl
  ·cases h
 |a::b::r,h=>exact many (a::b::r) (by simp) h
theorem Mj{w:Row}{n:Nat}(h:n≤16):(rowL w n).length=n:=by
 unfold rowL
 rw[q1f]
 show min n 16=n
 omega
theorem Xg{tb:FuncId→Nat}(Hst: ∀(f:FuncId) fn c,P.funcs[f]?=some fn→fn.body=some c→z9 P c=true){n:Nat}{ih:Rc}(hr:RcLe pr ih.call (Dq P pr n)){f:FuncId}{w:Row}{k:Nat}{s s':S}{v:V}(h:(fnC P pr tb f).g ih w k s= .ok v s'):
  k≤16∧((j9 (rowL w k)).c0=w→(∀x∈rowL w k,x≠ .und)→v≠ .und∧Dq P pr (n+1) f (rowL w k) s= .ok v s'):=by
 have e0: ∀vs s,Dq P pr (n+1) f vs s=(match pr f with
   |some g=>addT f (g vs s)
   |none=>(match P.funcs[f]? with
    |some fn=>(match fn.body with
     |some c=> @Bool.rec (fun _=>RO) (.no [17]) (addT f (retR P fn.results.toList (den (Dq P pr n) P c (j9 vs) s))) (jz fn.ntmps c&&Nat.ble vs.length 16&&Nat.ble vs.length fn.ntmps&&B2 fn)
     |none=> .no [15])
    |none=> .no [16])):=fun _ _=>rfl
 rw[e0]
 unfold fnC at h
 split at h
 ·rename_i g hg
  obtain⟨h1,h2⟩:=ve (show @Bool.rec (fun _=>RO) (.no [17]) (roK (g (rowL w k) s) fun v s=>qF v fun v=> .ok v s) (Nat.ble k 16)= .ok v s' from h)
  obtain⟨v1,s1,h3,h4⟩:=EZ h2
  obtain⟨h5,h6⟩:=AN h4
  cases h6
  refine⟨q1D h1,fun _ _=>⟨h5,?_⟩⟩
  rw[hg]
  show addT f (g (rowL w k) s)=_
  rw[h3];rfl
 ·rename_i hpr
  rw[hpr]
  simp only
  split at h
  ·rename_i fn hfn
   split at h
   ·rename_i c hc
    cases hk:(jz fn.ntmps c&&B2 fn)with
    |false=>rw[hk]at h;cases h
    |true=>
     rw[hk,cond_true]at h
     simp only[q0Q]at hk
     have h:(match(fden P pr (tb f) c).d Rc Kg (2^fn.params.size-1) (retC P (tb f) fn.results.toList) [] (retC P (tb f) fn.results.toList)with
      |⟨run⟩=>(⟨fun rc w n s=> @Bool.rec (fun _=>RO) (.no [17]) (run rc ⟨w,qI,qI,qI,qI,qI,qI,qI,qI,qI,qI,qI,qI,qI,qI,qI⟩ s) (ja (Nat.ble n (Nat.min 16 fn.ntmps)) (Nat.ble fn.params.size n))⟩:FnC)).g ih w k s= .ok v s':=h
     generalize hrun:(fden P pr (tb f) c).d Rc Kg (2^fn.params.size-1) (retC P (tb f) fn.results.toList) [] (retC P (tb f) fn.results.toList)=q at h
     obtain⟨run⟩:=q
     obtain⟨h1,h2⟩:=ve (show @Bool.rec (fun _=>RO) (.no [17]) (run ih ⟨w,qI,qI,qI,qI,qI,qI,qI,qI,qI,qI,qI,qI,qI,qI,qI⟩ s) (ja (Nat.ble k (Nat.min 16 fn.ntmps)) (Nat.ble fn.params.size k))= .ok v s' from h)
     rw[jp]at h1
     have hk16:k≤Nat.min 16 fn.ntmps:=q1D h1.1
     have hp:fn.params.size≤k:=q1D h1.2
     have k16:k≤16:=q1H hk16 (Nat.min_le_left _ _)
     have knt:k≤fn.ntmps:=q1H hk16 (Nat.min_le_right _ _)
     refine⟨k16,fun hw hvs=>?_⟩
     have hE:(⟨w,qI,qI,qI,qI,qI,qI,qI,qI,qI,qI,qI,qI,qI,qI,qI⟩:q9)=j9 (rowL w k):=by
      have:j9 (rowL w k)=⟨(j9 (rowL w k)).c0,qI,qI,qI,qI,qI,qI,qI,qI,qI,qI,qI,qI,qI,qI,qI⟩:=rfl
      rw[this,hw]
     rw[hE]at h2
     have hdf: ∀t,Nat.testBit (2^fn.params.size-1) t=true→slot (j9 (rowL w k)) t≠ .und:=fun t ht=>by
      rw[Nat.testBit_two_pow_sub_one]at ht
      have ht:=of_decide_eq_true ht
      have hlen:=Mj (w:=w) k16
      rw[E3,if_pos (by omega)]
      have hlt:t<(rowL w k).length:=by omega
      rw[Gz (q16 hlt)]
      exact hvs _ (List.getElem_mem hlt)
     obtain⟨x,e1,s1,e1',g1,g2,g3,g4,g5⟩:=Aq (v2:=v) (s2:=s') c Rc Kg (2^fn.params.size-1) _ [] _ ih fn.ntmps _ (j9 (rowL w k)) s hr hk.1 (Hst f fn c hfn hc) (fun t _=>rfl) hdf (by rw[hrun];exact h2)
     have hret: ∀y:X,y= .nrm∨y= .ret→(retC P (tb f) fn.results.toList).f ih e1' s1= .ok v s'→v≠ .und∧retR P fn.results.toList (.ok y e1 s1)= .ok v s':=fun y hy h=>by
      obtain⟨k1,k2⟩:=W1 g2 h
      refine⟨k1,?_⟩
      rcases hy with rfl|rfl<;>exact k2
     have hfin:v≠ .und∧retR P fn.results.toList (.ok x e1 s1)= .ok v s':=by
      cases x with
      |nrm=>exact hret _ (.inl rfl) g5
      |ret=>exact hret _ (.inr rfl) g5
      |ext i=>cases g5
     refine⟨hfin.1,?_⟩
     rw[hfn]
     simp only
     rw[hc]
     simp only
     rw[Mj k16,hk.1,hk.2,Nat.ble_eq_true_of_le k16,Nat.ble_eq_true_of_le knt,g1]
     show addT f (retR P fn.results.toList (.ok x e1 s1))=_
     rw[hfin.2];rfl
   ·cases h
  ·cases h
theorem L1{tb:FuncId→Nat}(Hst: ∀(f:FuncId) fn c,P.funcs[f]?=some fn→fn.body=some c→z9 P c=true): ∀n,RcLe pr (wg P pr tb n).call (Dq P pr (n+1))
 |0=>⟨fun f w k s v s' h=>(by cases h),fun f g hg vs s v s' h=>by
   show(match pr f with|some g=>addT f (g vs s)|none=>_)=_
   rw[hg];simp only;rw[h];rfl⟩
 |n+1=>⟨fun f w k s v s' h=>Xg Hst (L1 Hst n) h,fun f g hg vs s v s' h=>by
   show(match pr f with|some g=>addT f (g vs s)|none=>_)=_
   rw[hg];simp only;rw[h];rfl⟩
theorem BG{D:List Int}{tb:FuncId→Nat}(Hst: ∀(f:FuncId) fn c,P.funcs[f]?=some fn→fn.body=some c→z9 P c=true)(hp:Eh D P pr)(hm:P.follows .mixedOrders=true){n:Nat}{f:FuncId}{vs:List V}{s s':S}{v:V}
  (h:(wg P pr tb n).call f (j9 vs).c0 vs.length s= .ok v s')(hvs: ∀x∈vs,x.ok∧x≠ .und)(hs:SOK D s):CallOk D P f vs s v s':=by
 obtain⟨h1,h2⟩:=(L1 (pr:=pr) (tb:=tb) Hst n).code _ _ _ _ _ _ h
 rw[GF h1]at h2
 obtain⟨_,h4⟩:=h2 rfl fun x hx=>(hvs x hx).2
 exact L0 hp hm (n+1) f vs s v s' h4 hvs hs
end
end
noncomputable section
section
variable {D:List Int} {P:Program}
theorem vQ{f:FuncId}{vs:List V}{v:V}{s:S}(h:Sig P f (vs.map (qe D)) (qe D v))(hs:SOK D s)(hv:v.ok)(hne:v≠ .und):CallOk D P f vs s v s:=by
 refine⟨h.1,hs,q1G _,hv,hne,fun k hk=> .inl hk,fun us w H β hargs hM hon hdom=>?_⟩
 refine Calls.mono (h.2 us w H β hargs (fun p hp=>by simp at hp) (fun p hp=>by simp at hp) hon) ?_
 rintro e w' ⟨u,H',β',rfl,hst,hsat,_⟩
 have hb:β'=β:=by funext k;exact hst.beta k (by simp[qt])
 subst hb
 have hkeep: ∀b,b<w.heap.size→w'.heap[b]?=w.heap[b]?:=fun b hb=>hst.keep b hb fun k hk=>by simp[kwOf]at hk
 refine⟨u,H',β',rfl,⟨hst.os,hst.tape,hst.output,hst.size,fun b hb _=>hkeep b hb,hst.hle,hst.hnew,hst.hon,fun k _=>rfl,fun k b hb bb c hβ=> .inr ⟨k,by rw[hb];simp,c,hβ⟩⟩,hsat,⟨fun k b hb=>?_,fun k b hb bb c hβ=>?_,hM.inj⟩⟩
 ·exact Blk.rep_congr (hM.rep k b hb) hst.hle (fun _ _=>rfl) (fun bb c hβ=>hkeep bb (hM.own k b hb bb c hβ).2)
 ·obtain⟨h1,h2⟩:=hM.own k b hb bb c hβ
  refine⟨?_,q1J h2 hst.size⟩
  cases hH:H' bb with
  |none=>rfl
  |some cs=>
   rcases hst.hnew bb (by rw[hH];simp)with h3|h3
   ·exact absurd h1 h3
   ·omega
end
def rV(x:Rat):V:= .qq (decide (x.num<0)) x.num.natAbs x.den
theorem I0(x:Rat):(rV x).okC:=⟨x.den_nz,x.reduced,fun h=>by simp at h;omega⟩
theorem Ag{s:Bool}{n d:Nat}(h:QWF s n d): ∃x:Rat,s=decide (x.num<0)∧n=x.num.natAbs∧d=x.den:=by
 obtain⟨h1,h2,h3⟩:=h
 have hd:0<d:=q1W h1
 refine⟨qn s n d,?_,?_,?_⟩
 ·by_cases hn:n=0
  ·subst hn
   cases s with
   |true=>exact absurd rfl (h3 rfl)
   |false=>rw[wR];rfl
  ·exact(vI (q1W hn) hd).symm
 ·rw[v8 hd,h2];simp
 ·rw[(jy hd).2,h2];simp
theorem EN{s:Bool}{n d:Nat}(hd:0<d):mkQ s n d=rV (qn s n d):=by
 unfold mkQ
 by_cases hn:n=0
 ·subst hn
  rw[wR];rfl
 ·rw[je hn]
  have e1:=vI (neg:=s) (q1W hn) hd
  have e2:=v8 (neg:=s) (n:=n) hd
  have e3:=(jy (neg:=s) (n:=n) hd).2
  unfold rV
  rw[e1,e2,e3]
  simp only
  cases hg:Nat.beq (Nat.gcd n d) 1 with
  |true=>
   have:=q1B hg
   rw[this];simp
  |false=>rfl
theorem UH(s:Bool)(a:Nat)(t:Bool)(b d:Nat)(hd:0<d):addS s a t b d=rV (mkRat (sgI s a+sgI t b) d):=by
 unfold addS
 cases hst:s==t with
 |true=>
  have:s=t:=by simpa using hst
  subst this
  rw[Mm]
  exact EN hd
 |false=>
  have hne:s≠t:=by simpa using hst
  simp only
  cases hb:Nat.ble b a with
  |true=>
   have hb:b≤a:=by simpa using hb
   rw[RN hne hb]
   exact EN hd
  |false=>
   have hb:a≤b:=by
    have: ¬b≤a:=bleF hb
    omega
   rw[RP hne hb]
   exact EN hd
theorem Oj(x y:Rat)(t:Bool):qadd (decide (x.num<0)) x.num.natAbs x.den t y.num.natAbs y.den=rV (x+yQ t y):=by
 unfold qadd
 show addS _ (x.num.natAbs*y.den) t (y.num.natAbs*x.den) (x.den*y.den)=_
 rw[UH _ _ _ _ _ (q1V x.den_pos y.den_pos),GY]
theorem OQ(a b:Bool):xorB a b=decide (a≠b):=by cases a<;>cases b<;>rfl
theorem Aw(x y:Rat):qmul (decide (x.num<0)) x.num.natAbs x.den (decide (y.num<0)) y.num.natAbs y.den=rV (x*y):=by
 unfold qmul
 show mkQ _ (x.num.natAbs*y.num.natAbs) (x.den*y.den)=_
 rw[EN (q1V x.den_pos y.den_pos),OQ]
 rw[←D9]
theorem Xu (y : Rat) (hy : y.num.natAbs ≠ 0) : y⁻¹ = qn (decide (y.num < 0)) y.den y.num.natAbs := by
 have h0 : y.num ≠ 0 := fun e => hy (by rw [e]; rfl)
 have h1 : 0 < y.num.natAbs := q1W hy
 have h2 : y ≠ 0 := fun e => h0 (by rw [e]; rfl)
 have h3 : qn (decide (y.num < 0)) y.den y.num.natAbs * y = 1 := by
  conv => lhs; rhs; rw [← vg y]
  rw [FM]
  unfold qn
  rw [show (1 : Rat) = mkRat 1 1 from rfl, Rat.mkRat_eq_iff (Nat.ne_of_gt (q1V h1 y.den_pos)) (by decide)]
  simp [sgI, q1R]
 have h4 : y * y⁻¹ = 1 := Rat.mul_inv_cancel y h2
 calc y⁻¹ = 1 * y⁻¹ := (Rat.one_mul _).symm
  _ = (qn (decide (y.num < 0)) y.den y.num.natAbs * y) * y⁻¹ := by rw [h3]
  _ = qn (decide (y.num < 0)) y.den y.num.natAbs := by rw [Rat.mul_assoc, h4, Rat.mul_one]
theorem IT(x y:Rat)(hy:y.num.natAbs≠0):qmul (decide (x.num<0)) x.num.natAbs x.den (decide (y.num<0)) y.den y.num.natAbs=rV (x/y):=by
 unfold qmul
 show mkQ _ (x.num.natAbs*y.den) (x.den*y.num.natAbs)=_
 rw[EN (q1V x.den_pos (q1W hy)),OQ,Rat.div_def,Xu y hy]
 conv=>rhs;rw[←vg x,FM]
theorem Mg(x y:Rat):qlt (decide (x.num<0)) x.num.natAbs x.den (decide (y.num<0)) y.num.natAbs y.den=decide (x<y):=by
 have h:=Rat.lt_iff x y
 have hx:=x.den_pos
 have hy:=y.den_pos
 generalize x.num=p at*
 generalize x.den=c at*
 generalize y.num=q at*
 generalize y.den=d at*
 have e: ∀b:Bool,(b=true↔p*(d:Int)<q*(c:Int))→b=decide (x<y):=fun b hb=>by
  cases b with
  |true=>exact(decide_eq_true (h.2 (hb.1 rfl))).symm
  |false=>exact(decide_eq_false (fun hh=>by have:=hb.2 (h.1 hh);cases this)).symm
 apply e
 by_cases hp:p<0
 ·obtain⟨a,rfl⟩: ∃a:Nat,p= -(a:Int):=⟨p.natAbs,by omega⟩
  by_cases hq:q<0
  ·obtain⟨b,rfl⟩: ∃b:Nat,q= -(b:Int):=⟨q.natAbs,by omega⟩
   simp only[hp,hq,decide_true,Int.natAbs_neg,Int.natAbs_natCast,qlt,Int.neg_mul]
   have e1:((a*d:Nat):Int)=(a:Int)*d:=q0T _ _
   have e2:((b*c:Nat):Int)=(b:Int)*c:=q0T _ _
   rw[←e1,←e2]
   show Nat.blt (b*c) (a*d)=true↔_
   simp;omega
  ·simp only[hp,hq,decide_true,decide_false,qlt]
   have h1: -(a:Int)*d<0:=Int.mul_neg_of_neg_of_pos hp (by omega)
   have h2:0≤q*(c:Int):=Int.mul_nonneg (by omega) (by omega)
   simp;omega
 ·obtain⟨a,rfl⟩: ∃a:Nat,p=(a:Int):=⟨p.natAbs,by omega⟩
  by_cases hq:q<0
  ·simp only[hp,hq,decide_true,decide_false,qlt]
   have h1:q*(c:Int)<0:=Int.mul_neg_of_neg_of_pos hq (by omega)
   have h2:0≤(a:Int)*d:=Int.mul_nonneg (by omega) (by omega)
   simp;omega
  ·obtain⟨b,rfl⟩: ∃b:Nat,q=(b:Int):=⟨q.natAbs,by omega⟩
   simp only[hp,hq,decide_false,Int.natAbs_natCast,qlt]
   have e1:((a*d:Nat):Int)=(a:Int)*d:=q0T _ _
   have e2:((b*c:Nat):Int)=(b:Int)*c:=q0T _ _
   rw[←e1,←e2]
   show Nat.blt (a*d) (b*c)=true↔_
   simp only[Nat.blt_eq];omega
theorem EV(x y:Rat):qeq (decide (x.num<0)) x.num.natAbs x.den (decide (y.num<0)) y.num.natAbs y.den=decide (x=y):=by
 unfold qeq
 by_cases h:x=y
 ·subst h;simp
 ·rw[decide_eq_false h]
  cases hq:Nat.beq x.num.natAbs y.num.natAbs&&Nat.beq x.den y.den&&(decide (x.num<0)==decide (y.num<0))with
  |false=>rfl
  |true=>
   simp only[q0Q]at hq
   obtain⟨⟨h1,h2⟩,h3⟩:=hq
   have h1:=q1B h1
   have h2:=q1B h2
   have h3:decide (x.num<0)=decide (y.num<0):=by simpa using h3
   exfalso
   apply h
   rw[←vg x,←vg y,h1,h2,h3]
theorem UW(x y:Rat):cmpV (decide (x.num<0)) x.num.natAbs x.den (decide (y.num<0)) y.num.natAbs y.den=ofI .i64 (jJ x y):=by
 unfold cmpV
 rw[Mg,EV]
 unfold jJ
 by_cases h1:y<x
 ·rw[decide_eq_true h1,if_neg (fun h=>absurd (Rat.not_lt.2 (Rat.le_of_lt h1)) (fun hh=>hh h)),if_neg (fun h=>by subst h;exact absurd h1 Rat.lt_irrefl)];rfl
 ·rw[decide_eq_false h1]
  by_cases h2:x=y
  ·subst h2;rw[decide_eq_true rfl,if_neg h1,if_pos rfl];rfl
  ·rw[decide_eq_false h2,if_pos,]
   ·rfl
   ·rcases Rat.le_iff_lt_or_eq.1 (Rat.not_lt.1 h1)with h|h
    ·exact h
    ·exact absurd h h2
end
noncomputable section
section
variable {D:List Int} {P:Program}
def qw(D:List Int)(P:Program)(f:FuncId)(g:List V→S→RO):Prop:= ∀vs s v s',g vs s= .ok v s'→(∀x∈vs,x.ok∧x≠ .und)→SOK D s→CallOk D P f vs s v s'
theorem BX{L:List (Nat×Pt)}(h: ∀p∈L,qw D P p.1 (qx p.2)):Eh D P (prims L):=by
 intro f g hg
 unfold prims at hg
 split at hg
 ·rename_i p hp
  cases hg
  have: ∀L:List (Nat×Pt),look L f=some p→(f,p)∈L:=by
   intro L
   induction L with
   |nil=>intro h;cases h
   |cons q r ih=>
    intro h
    have h:(bif Nat.beq q.1 f then some q.2 else look r f)=some p:=h
    cases hb:Nat.beq q.1 f with
    |true=>
     rw[hb]at h;cases h
     have:=q1B hb
     subst this;simp
    |false=>rw[hb]at h;exact q1j _ (ih h)
  exact h _ (this L hp)
 ·cases hg
theorem Mt{a:Nat}(h:smB a=true):qH a 31:=show a<2147483648 from q1D h
theorem FQ{x:Rat}(h1:smB x.num.natAbs=true)(h2:smB x.den=true):Bnd .rat (.n 31) x:=⟨Mt h1,q1E (Mt h2)⟩
theorem Fd{x:Rat}(h:Bnd .rat (.n 31) x):Bnd .rat (.n 1099511627776) x:=⟨qi (by decide) h.1,wO (by decide) h.2⟩
theorem AF(x:Rat):(.c (.agg (qg .rat x)):AV)=qe D (rV x):=rfl
theorem rV_k(x:Rat):(rV x).ok∧rV x≠ .und:=⟨I0 x,by simp[rV]⟩
theorem D6{f:FuncId}{R:Rat→AV}{h:Bool→Nat→Nat→V}(g:Rat→V)(hs: ∀x:Rat,Bnd .rat (.n 31) x→Sig P f (argsE [.rat] x) (R x))(he: ∀x:Rat,h (decide (x.num<0)) x.num.natAbs x.den=g x)(hR: ∀x,R x=qe D (g x))(hg: ∀x,(g x).ok∧g x≠ .und):qw D P f (one h):=by
 intro vs s v s' hv hvs hsk
 unfold one at hv
 split at hv
 ·rename_i a n d
  have hq:QWF a n d:=(hvs (.qq a n d) (by simp)).1
  obtain⟨x,rfl,rfl,rfl⟩:=Ag hq
  cases hb:(smB x.num.natAbs&&smB x.den)with
  |false=>rw[hb]at hv;cases hv
  |true=>
   rw[hb]at hv
   simp only[q0Q]at hb
   rw[he]at hv
   have hv:RO.ok (g x) s= .ok v s':=hv
   injection hv with h1 h2
   subst h1;subst h2
   have:=hs x (FQ hb.1 hb.2)
   rw[hR]at this
   exact vQ (vs:=[rV x]) this hsk (hg x).1 (hg x).2
 ·cases hv
theorem wu{f:FuncId}{R:Rat→Rat→AV}{h:Bool→Nat→Nat→Bool→Nat→Nat→V}(g:Rat→Rat→V)(hs: ∀x y:Rat,Bnd .rat (.n 31) x→Bnd .rat (.n 31) y→Sig P f (argsE [.rat,.rat] (x,y)) (R x y))
  (he: ∀x y:Rat,h (decide (x.num<0)) x.num.natAbs x.den (decide (y.num<0)) y.num.natAbs y.den=g x y)(hR: ∀x y,R x y=qe D (g x y))(hg: ∀x y,(g x y).ok∧g x y≠ .und):qw D P f (two h):=by
 intro vs s v s' hv hvs hsk
 unfold two at hv
 split at hv
 ·rename_i a n d a' n' d'
  have hq:QWF a n d:=(hvs (.qq a n d) (by simp)).1
  have hq':QWF a' n' d':=(hvs (.qq a' n' d') (by simp)).1
  obtain⟨x,rfl,rfl,rfl⟩:=Ag hq
  obtain⟨y,rfl,rfl,rfl⟩:=Ag hq'
  cases hb:(smB x.num.natAbs&&smB x.den&&(smB y.num.natAbs&&smB y.den))with
  |false=>rw[hb]at hv;cases hv
  |true=>
   rw[hb]at hv
   simp only[q0Q]at hb
   rw[he]at hv
   have hv:RO.ok (g x y) s= .ok v s':=hv
   injection hv with h1 h2
   subst h1;subst h2
   have:=hs x y (FQ hb.1.1 hb.1.2) (FQ hb.2.1 hb.2.2)
   rw[hR]at this
   exact vQ (vs:=[rV x,rV y]) this hsk (hg x y).1 (hg x y).2
 ·cases hv
theorem ID(z:Int):(ofI .i64 z).ok∧ofI .i64 z≠ .und:=by cases z<;>exact⟨trivial,by simp[ofI]⟩
theorem P1(z:Int):(.c (.one (.val (.int .i64 z))):AV)=qe D (ofI .i64 z):=by cases z<;>rfl
theorem CJ(z:Int):argC (.int .i64) z=qe D (ofI .i64 z):=by cases z<;>rfl
theorem Ul{f:FuncId}(hs: ∀x y:Rat,Bnd .rat (.n 31) x→Bnd .rat (.n 31) y→Sig P f (argsE [.rat,.rat] (x,y)) (.c (.agg (qg .rat (x+y))))):qw D P f (qx .add):=
 wu (h:=qadd) (fun x y=>rV (x+y)) hs (fun x y=>by rw[Oj,BC]) (fun x y=>AF _) fun x y=>rV_k _
theorem Ur{f:FuncId}(hs: ∀x y:Rat,Bnd .rat (.n 31) x→Bnd .rat (.n 31) y→Sig P f (argsE [.rat,.rat] (x,y)) (.c (.agg (qg .rat (x-y))))):qw D P f (qx .sub):=
 wu (h:=fun a b c d e f=>qadd a b c (!d) e f) (fun x y=>rV (x-y)) hs (fun x y=>by rw[Oj,N0,Rat.sub_eq_add_neg]) (fun x y=>AF _) fun x y=>rV_k _
theorem Up{f:FuncId}(hs: ∀x y:Rat,Bnd .rat (.n 31) x→Bnd .rat (.n 31) y→Sig P f (argsE [.rat,.rat] (x,y)) (.c (.agg (qg .rat (x*y))))):qw D P f (qx .mul):=
 wu (h:=qmul) (fun x y=>rV (x*y)) hs (fun x y=>Aw x y) (fun x y=>AF _) fun x y=>rV_k _
theorem q02{f:FuncId}(hs: ∀x y:Rat,Bnd .rat (.n 31) x→Bnd .rat (.n 31) y→Sig P f (argsE [.rat,.rat] (x,y)) (.c (.agg (qg .rat (maxQ x y))))):qw D P f (qx .max):=by
 refine wu (h:=fun a b c d e f=> @Bool.rec (fun _=>V) (.qq a b c) (.qq d e f) (qlt a b c d e f)) (fun x y=>rV (maxQ x y)) hs (fun x y=>?_) (fun x y=>AF _) fun x y=>rV_k _
 simp only[Mg]
 unfold maxQ jJ
 by_cases h:x<y
 ·have h1: ¬y<x:=Rat.not_lt.2 (Rat.le_of_lt h)
  have h2: ¬y=x:=fun e=>by subst e;exact absurd h Rat.lt_irrefl
  rw[decide_eq_true h,if_neg h1,if_neg h2,if_pos (by decide)];rfl
 ·rw[decide_eq_false h]
  by_cases h1:y<x
  ·rw[if_pos h1,if_neg (by decide)];rfl
  ·have h2:y=x:=by
    rcases Rat.le_iff_lt_or_eq.1 (Rat.not_lt.1 h)with h3|h3
    ·exact absurd h3 h1
    ·exact h3
   rw[if_neg h1,if_pos h2,if_neg (by decide)];rfl
theorem q03{f:FuncId}(hs: ∀x y:Rat,Bnd .rat (.n 31) x→Bnd .rat (.n 31) y→Sig P f (argsE [.rat,.rat] (x,y)) (.c (.agg (qg .rat (minQ x y))))):qw D P f (qx .min):=by
 refine wu (h:=fun a b c d e f=> @Bool.rec (fun _=>V) (.qq a b c) (.qq d e f) (qlt d e f a b c)) (fun x y=>rV (minQ x y)) hs (fun x y=>?_) (fun x y=>AF _) fun x y=>rV_k _
 simp only[Mg]
 unfold minQ jJ
 by_cases h:y<x
 ·rw[decide_eq_true h,if_pos h,if_pos (by decide)];rfl
 ·rw[decide_eq_false h,if_neg h]
  by_cases h1:y=x
  ·rw[if_pos h1,if_neg (by decide)];rfl
  ·rw[if_neg h1,if_neg (by decide)];rfl
theorem Um{f:FuncId}(hs: ∀x y:Rat,Bnd .rat (.n 31) x→Bnd .rat (.n 31) y→Sig P f (argsE [.rat,.rat] (x,y)) (.c (.one (.val (.int .i64 (jJ x y)))))):qw D P f (qx .cmp):=
 wu (h:=cmpV) (fun x y=>ofI .i64 (jJ x y)) hs (fun x y=>UW x y) (fun x y=>P1 _) fun x y=>ID _
theorem Rr{f:FuncId}(hs: ∀x y:Rat,Bnd .rat (.n 31) x→Bnd .rat (.n 31) y→Sig P f (argsE [.rat,.rat] (x,y)) (.c (.one (.val (.bool (decide (x=y))))))):qw D P f (qx .same):=
 wu (h:=fun a b c d e f=> .bb (qeq a b c d e f)) (fun x y=> .bb (decide (x=y))) hs (fun x y=>by rw[EV]) (fun x y=>rfl) fun x y=>⟨trivial,by simp⟩
theorem Uj{x:Rat}(h:x.num=0):x=0:=by
 rw[←vg x,h]
 exact wR _ _
theorem Ua{x y:Rat}(h:y.num.natAbs=0):x/y=0:=by
 have:y=0:=by
  have:y.num=0:=by omega
  exact Uj this
 rw[this,Rat.div_def,Rat.inv_zero,Rat.mul_zero]
theorem Uq{f:FuncId}(hs: ∀x y:Rat,Bnd .rat (.n 31) x→Bnd .rat (.n 31) y→Sig P f (argsE [.rat,.rat] (x,y)) (.tup [.agg (qg .rat (x/y)),.one (.val (.int .i64 (quoC y)))])):qw D P f (qx .quo):=by
 refine wu (h:=fun a b c d e f=> @Bool.rec (fun _=>V) (.tu [qmul a b c d f e,.nn .i64 0]) (.tu [.qq false 0 1,.nn .i64 3]) (Nat.beq e 0)) (fun x y=> .tu [rV (x/y),ofI .i64 (quoC y)]) hs (fun x y=>?_) (fun x y=>?_) fun x y=>⟨?_,by simp⟩
 ·cases hb:Nat.beq y.num.natAbs 0 with
  |true=>
   have:=q1B hb
   rw[Ua this,show quoC y=3 from if_pos this];rfl
  |false=>
   have:y.num.natAbs≠0:=fun e=>by rw[e]at hb;simp at hb
   simp only
   rw[IT x y this,show quoC y=0 from if_neg this];rfl
 ·unfold quoC;split<;>rfl
 ·intro v hv
  simp only[q1i,q1q,or_false]at hv
  rcases hv with rfl|rfl
  ·exact I0 _
  ·unfold quoC;split<;>exact trivial
theorem XT{f:FuncId}(hs: ∀x y:Rat,Bnd .rat (.n 31) x→Bnd .rat (.n 31) y→Sig P f (argsE [.rat,.rat] (x,y)) (.c (.agg (qg .rat (x/y))))):qw D P f (qx .over):=by
 refine wu (h:=fun a b c d e f=> @Bool.rec (fun _=>V) (qmul a b c d f e) (.qq false 0 1) (Nat.beq e 0)) (fun x y=>rV (x/y)) hs (fun x y=>?_) (fun x y=>AF _) fun x y=>rV_k _
 cases hb:Nat.beq y.num.natAbs 0 with
 |true=>
  have:=q1B hb
  rw[Ua this];rfl
 |false=>
  have:y.num.natAbs≠0:=fun e=>by rw[e]at hb;simp at hb
  exact IT x y this
theorem q04{f:FuncId}(hs: ∀x:Rat,Bnd .rat (.n 31) x→Sig P f (argsE [.rat] x) (.c (.agg (qg .rat (-x))))):qw D P f (qx .neg):=by
 refine D6 (h:=fun a b c=> @Bool.rec (fun _=>V) (.qq (!a) b c) (.qq false 0 1) (Nat.beq b 0)) (fun x=>rV (-x)) hs (fun x=>?_) (fun x=>AF _) fun x=>rV_k _
 cases hb:Nat.beq x.num.natAbs 0 with
 |true=>
  have:=q1B hb
  have:x=0:=Uj (by omega)
  subst this;rfl
 |false=>
  have:x.num.natAbs≠0:=fun e=>by rw[e]at hb;simp at hb
  unfold rV
  simp only[Rat.neg_num,Rat.neg_den,Int.natAbs_neg]
  congr 1
  by_cases h:x.num<0
  ·rw[decide_eq_true h,decide_eq_false (by omega)];rfl
  ·rw[decide_eq_false h,decide_eq_true (by omega)];rfl
theorem Rs{f:FuncId}(hs: ∀x:Rat,Bnd .rat (.n 31) x→Sig P f (argsE [.rat] x) (.c (.one (.val (.int .i64 (jc x)))))):qw D P f (qx .sign):=by
 refine D6 (h:=fun a b c=> @Bool.rec (fun _=>V) (@Bool.rec (fun _=>V) (.nn .i64 1) (.zz .i64 0) a) (.nn .i64 0) (Nat.beq b 0)) (fun x=>ofI .i64 (jc x)) hs (fun x=>?_) (fun x=>P1 _) fun x=>ID _
 unfold jc
 cases hb:Nat.beq x.num.natAbs 0 with
 |true=>rw[if_pos (q1B hb)];rfl
 |false=>
  have:x.num.natAbs≠0:=fun e=>by rw[e]at hb;simp at hb
  rw[if_neg this]
  by_cases h:x.num<0
  ·rw[decide_eq_true h,if_pos h];rfl
  ·rw[decide_eq_false h,if_neg h];rfl
theorem UP(x:Rat):(V.nn .i64 (Nat.max (Nat.add (Nat.log2 x.num.natAbs) 1) (Nat.add (Nat.log2 x.den) 1)))=ofI .i64 (max ((bl x.num.natAbs:Nat):Int) ((bl x.den:Nat):Int)):=by
 have hd:bl x.den=Nat.log2 x.den+1:=by unfold bl;rw[if_neg x.den_nz]
 have hn:bl x.num.natAbs=if x.num.natAbs=0 then 0 else Nat.log2 x.num.natAbs+1:=rfl
 have h0:x.num.natAbs=0→Nat.log2 x.num.natAbs=0:=fun h=>by rw[h];rfl
 have e1:Nat.max (Nat.add (Nat.log2 x.num.natAbs) 1) (Nat.add (Nat.log2 x.den) 1)=max (bl x.num.natAbs) (bl x.den):=by
  show max (Nat.log2 x.num.natAbs+1) (Nat.log2 x.den+1)=_
  rw[hn,hd]
  split
  ·rename_i h;have:=h0 h;omega
  ·rfl
 have e2:max ((bl x.num.natAbs:Nat):Int) ((bl x.den:Nat):Int)=((max (bl x.num.natAbs) (bl x.den):Nat):Int):=by omega
 rw[e1,e2];rfl
theorem Rp{f:FuncId}(hs: ∀x:Rat,Bnd .rat (.n 31) x→Sig P f (argsE [.rat] x) (.c (.one (.val (.int .i64 (max ((bl x.num.natAbs:Nat):Int) ((bl x.den:Nat):Int))))))):qw D P f (qx .bits):=
 D6 (h:=fun a b c=> .nn .i64 (Nat.max (Nat.add (Nat.log2 b) 1) (Nat.add (Nat.log2 c) 1))) (fun x=>ofI .i64 (max ((bl x.num.natAbs:Nat):Int) ((bl x.den:Nat):Int))) hs (fun x=>UP x) (fun x=>P1 _) fun x=>ID _
theorem Oh{f:FuncId}(hs: ∀x:Rat,Bnd .rat (.n 31) x→Sig P f (argsE [.rat] x) (.c (.one (.val (.bool true))))):qw D P f (qx .valid):=
 D6 (h:=fun a b c=> .bb true) (fun x=> .bb true) hs (fun x=>rfl) (fun x=>rfl) fun x=>⟨trivial,by simp⟩
theorem OI{n:Nat}(h:smB n=true):Bnd .mag (.n 1099511627776) n:=qi (by decide) (Mt h)
theorem XW{f:FuncId}(hs: ∀x:Nat,Bnd .mag (.n 1099511627776) x→Sig P f (argsE [.mag] x) (.c (.one (.abs (natP x))))):qw D P f (qx .trim):=by
 intro vs s v s' hv hvs hsk
 have hv:(match vs with|[.mg n]=> @Bool.rec (fun _=>RO) (.no [35]) (.ok (.mg n) s) (smB n)|_=> .no [32])= .ok v s':=hv
 split at hv
 ·rename_i n _
  cases hb:smB n with
  |false=>rw[hb]at hv;cases hv
  |true=>
   rw[hb]at hv
   have hv:RO.ok (.mg n) s= .ok v s':=hv
   injection hv with h1 h2
   subst h1;subst h2
   exact vQ (vs:=[.mg n]) (hs n (OI hb)) hsk trivial (by simp)
 ·cases hv
theorem VQ{f:FuncId}(hs: ∀x u:Nat,Bnd .mag (.n 1099511627776) x→Bnd (.nat .u32) (.n 4294967295) u→0<u→Sig P f (argsE [.mag,.nat .u32] (x,u)) (.tup [.one (.abs (natP (x/u))),.one (.val (.int .u32 ((x%u:Nat):Int)))])):qw D P f (qx .small):=by
 intro vs s v s' hv hvs hsk
 have hv:(match vs with|[.mg n,.nn .u32 u]=> @Bool.rec (fun _=>RO) (.no [33]) (.ok (.tu [.mg (Nat.div n u),.nn .u32 (Nat.mod n u)]) s) (smB n&&(Nat.blt 0 u&&Nat.blt u 4294967296))|_=> .no [34])= .ok v s':=hv
 split at hv
 ·rename_i n u _
  cases hb:(smB n&&(Nat.blt 0 u&&Nat.blt u 4294967296))with
  |false=>rw[hb]at hv;cases hv
  |true=>
   rw[hb]at hv
   simp only[q0Q]at hb
   obtain⟨h1,h2,h3⟩:=hb
   have h2:0<u:=q1D h2
   have h3:u<4294967296:=q1D h3
   have hv:RO.ok (.tu [.mg (Nat.div n u),.nn .u32 (Nat.mod n u)]) s= .ok v s':=hv
   injection hv with h4 h5
   subst h4;subst h5
   refine vQ (vs:=[.mg n,.nn .u32 u]) (hs n u (OI h1) (show u≤4294967295 by omega) h2) hsk ?_ (by simp)
   intro x hx
   simp only[q1i,q1q,or_false]at hx
   rcases hx with rfl|rfl<;>exact trivial
 ·cases hv
theorem Un{f:FuncId}(hs: ∀x:Rat,Bnd .rat (.n 31) x→Sig P f (argsE [.rat] x) (.c (.agg (qg .rat x)))):qw D P f (qx .idq):=
 D6 (h:=fun a b c=> .qq a b c) (fun x=>rV x) hs (fun x=>rfl) (fun x=>AF _) fun x=>rV_k _
end
end
noncomputable section
section
variable {D:List Int} {P:Program}
theorem D8{v:V}{a:Bool}{n:Nat}(h:qint v=some (a,n)): ∃z:Int,v=ofI .i64 z∧a=decide (z<0)∧n=z.natAbs∧Bnd (.int .i64) (.n 4611686018427387904) z:=by
 unfold qint at h
 split at h
 ·rename_i m
  cases hb:Nat.ble m 4611686018427387904 with
  |false=>rw[hb]at h;cases h
  |true=>
   rw[hb]at h
   have h:some (false,m)=some (a,n):=h
   injection h with h
   injection h with h1 h2
   subst h1;subst h2
   have:=q1D hb
   exact⟨(m:Int),rfl,(decide_eq_false (by omega)).symm,by simp,by show Int.natAbs (m:Int)≤_;simpa using this⟩
 ·rename_i m
  cases hb:Nat.blt m 4611686018427387904 with
  |false=>rw[hb]at h;cases h
  |true=>
   rw[hb]at h
   have h:some (true,m+1)=some (a,n):=h
   cases h
   have:m+1≤4611686018427387904:=q1D hb
   exact⟨Int.negSucc m,rfl,(decide_eq_true (Int.negSucc_lt_zero m)).symm,rfl,by show Int.natAbs (Int.negSucc m)≤_;simpa using this⟩
 ·cases h
theorem Yi(z:Int):rV (z:Rat)= .qq (decide (z<0)) z.natAbs 1:=by
 unfold rV
 rw[Rat.num_intCast,Rat.den_intCast]
theorem Ol{u v:Int}(hv:v.natAbs≠0):mkQ (xorB (decide (u<0)) (decide (v<0))) u.natAbs v.natAbs=rV ((u:Rat)/(v:Rat)):=by
 rw[←IT (u:Rat) (v:Rat) (by rw[Rat.num_intCast];exact hv)]
 rw[Rat.num_intCast,Rat.den_intCast,Rat.num_intCast,Rat.den_intCast]
 unfold qmul
 show _=mkQ _ (u.natAbs*1) (1*v.natAbs)
 rw[Nat.mul_one,Nat.one_mul]
theorem Uo{f:FuncId}(hs: ∀z:Int,Bnd (.int .i64) (.n 4611686018427387904) z→Sig P f (argsE [.int .i64] z) (.c (.agg (qg .rat (z:Rat))))):qw D P f (qx .int):=by
 intro vs s v s' hv hvs hsk
 have hv:(match vs with|[v]=>(match qint v with|some (a,n)=>RO.ok (.qq a n 1) s|none=> .no [21])|_=> .no [22])= .ok v s':=hv
 split at hv
 ·split at hv
  ·rename_i u a n hq
   obtain⟨z,rfl,rfl,rfl,hb⟩:=D8 hq
   injection hv with h1 h2
   subst h1;subst h2
   have h:=hs z hb
   rw[AF (D:=D)]at h
   rw[←Yi]
   refine vQ (vs:=[ofI .i64 z]) ?_ hsk (rV_k _).1 (rV_k _).2
   show Sig P f [qe D (ofI .i64 z)] _
   rw[←CJ];exact h
  ·cases hv
 ·cases hv
theorem XQ{f:FuncId}(hs: ∀u v:Int,Bnd (.int .i64) (.n 4611686018427387904) u→Bnd (.int .i64) (.n 4611686018427387904) v→v≠0→Sig P f (argsE [.int .i64,.int .i64] (u,v)) (.c (.agg (qg .rat ((u:Rat)/(v:Rat)))))):qw D P f (qx .frac):=by
 intro vs s v s' hv hvs hsk
 have hv:(match vs with|[u,v]=>(match qint u,qint v with|some (a,n),some (b,m)=> @Bool.rec (fun _=>RO) (.ok (mkQ (xorB a b) n m) s) (.no [25]) (Nat.beq m 0)|_,_=> .no [23])|_=> .no [22])= .ok v s':=hv
 split at hv
 ·split at hv
  ·rename_i x y a n b m hq hq'
   obtain⟨z,rfl,rfl,rfl,hb⟩:=D8 hq
   obtain⟨z',rfl,rfl,rfl,hb'⟩:=D8 hq'
   cases h0:Nat.beq z'.natAbs 0 with
   |true=>rw[h0]at hv;cases hv
   |false=>
    rw[h0]at hv
    have hne:z'.natAbs≠0:=fun e=>by rw[e]at h0;simp at h0
    rw[Ol hne]at hv
    have hv:RO.ok (rV ((z:Rat)/(z':Rat))) s= .ok v s':=hv
    injection hv with h1 h2
    subst h1;subst h2
    have h:=hs z z' hb hb' (by omega)
    rw[AF (D:=D)]at h
    refine vQ (vs:=[ofI .i64 z,ofI .i64 z']) ?_ hsk (rV_k _).1 (rV_k _).2
    show Sig P f [qe D (ofI .i64 z),qe D (ofI .i64 z')] _
    rw[←CJ,←CJ];exact h
  ·cases hv
 ·cases hv
theorem Rq{f:FuncId}(hs: ∀u v:Int,Bnd (.int .i64) (.n 4611686018427387904) u→Bnd (.int .i64) (.n 4611686018427387904) v→v≠0→Sig P f (argsE [.int .i64,.int .i64] (u,v)) (.tup [.agg (qg .rat ((u:Rat)/(v:Rat))),.one (.val (.int .i64 0))])):qw D P f (qx .make):=by
 intro vs s v s' hv hvs hsk
 have hv:(match vs with|[u,v]=>(match qint u,qint v with|some (a,n),some (b,m)=> @Bool.rec (fun _=>RO) (.ok (.tu [mkQ (xorB a b) n m,.nn .i64 0]) s) (.no [25]) (Nat.beq m 0)|_,_=> .no [23])|_=> .no [22])= .ok v s':=hv
 split at hv
 ·split at hv
  ·rename_i x y a n b m hq hq'
   obtain⟨z,rfl,rfl,rfl,hb⟩:=D8 hq
   obtain⟨z',rfl,rfl,rfl,hb'⟩:=D8 hq'
   cases h0:Nat.beq z'.natAbs 0 with
   |true=>rw[h0]at hv;cases hv
   |false=>
    rw[h0]at hv
    have hne:z'.natAbs≠0:=fun e=>by rw[e]at h0;simp at h0
    rw[Ol hne]at hv
    have hv:RO.ok (.tu [rV ((z:Rat)/(z':Rat)),.nn .i64 0]) s= .ok v s':=hv
    injection hv with h1 h2
    subst h1;subst h2
    have h:=hs z z' hb hb' (by omega)
    refine vQ (vs:=[ofI .i64 z,ofI .i64 z']) ?_ hsk ?_ (by simp)
    ·show Sig P f [qe D (ofI .i64 z),qe D (ofI .i64 z')] _
     rw[←CJ,←CJ];exact h
    ·intro x hx
     simp only[q1i,q1q,or_false]at hx
     rcases hx with rfl|rfl
     ·exact I0 _
     ·exact trivial
  ·cases hv
 ·cases hv
end
end
noncomputable section
section
variable {D:List Int} {P:Program}
theorem Su {f : FuncId} {k : Key} {b b' : KB} {cs cs' : List Atom} {vs : List V} {v : V} {s s' : S} (hbk : mget s.m k = some b) (hb : b.blk D = .rigid cs) (hb' : b'.blk D = .rigid cs') (hc : ∀ n, jh n cs = false) (hc' : ∀ n, jh n cs' = false)
  (hargs : ∀ β β' H us, AVs β H (vs.map (qe D)) us → AVs β' H (vs.map (qe D)) us) (hv : ∀ β β' H u, (qe D v).sat β H u → (qe D v).sat β' H u) (hvok : v.ok) (hne : v ≠ .und) (hs' : SOK D s') (hm : s'.m = mset s.m k (some b')) (hnx : s'.nx = s.nx)
  (h : SigG P f (.c (.one (.loc 100000 0)) :: vs.map (qe D)) [(100000, .rigid cs)] (qe D v) [(100000, some (.rigid cs'))]) : CallOk D P f (.pp k 0 :: vs) s v s' := by
 have hold : ∀ q b2, mget s'.m q = some b2 → ∃ b1, mget s.m q = some b1 := fun q b2 hq => by
  rw [hm, jr] at hq
  by_cases e : k = q
  ·subst e; exact ⟨b, hbk⟩
  ·rw [if_neg e] at hq; exact ⟨b2, hq⟩
 refine ⟨h.1, hs', by rw [hnx]; exact q1G _, hvok, hne, fun q hq => .inl ?_, fun us w H β hargs0 hM hon hdom => ?_⟩
 ·cases hq2 : mget s'.m q with
  | none => exact absurd hq2 hq
  | some b2 => obtain ⟨b1, h1⟩ := hold q b2 hq2; rw [h1]; simp
 ·cases us with
  | nil => exact hargs0.elim
  | cons u0 ur =>
   obtain ⟨h0, h1⟩ := hargs0
   have h0 : ∃ bb c, β k.num = some (bb, c) ∧ u0 = .pointer (some ⟨bb, 0, none⟩) := h0
   obtain ⟨bb, c, hβ, rfl⟩ := h0
   have hr0 : (Blk.rigid cs).rep β w H k.num := by rw [← hb]; exact hM.rep k b hbk
   have e1 : ∀ β1 : Bm, β1 100000 = β k.num → (Blk.rigid cs).rep β1 w H 100000 := fun β1 e => by
    obtain ⟨b0, c0, arr, T, r1, r2, r3⟩ := hr0
    exact ⟨b0, c0, arr, T, e.trans r1, r2, Sats.congr (Heap.Le.refl _) (fun k' hk => by rw [hc] at hk; cases hk) r3⟩
   have hcall := h.2 (.pointer (some ⟨bb, 0, none⟩) :: ur) w H (fun n => if n = 100000 then β k.num else none) ⟨⟨bb, c, by simp [hβ], rfl⟩, hargs _ _ _ _ h1⟩
    (fun p hp => by
     simp only [q1i, q1q, or_false] at hp
     subst hp
     refine ⟨e1 _ (by simp), fun b0 c0 h0 => ?_⟩
     simp only [if_true] at h0
     exact hM.own k b hbk b0 c0 h0)
    (fun p hp p' hp' hne => by
     simp only [q1i, q1q, or_false] at hp hp'
     subst hp; subst hp'; exact absurd rfl hne) hon
   refine Calls.mono hcall ?_
   rintro e w' ⟨u, H', β', rfl, hst, hsat, hblk⟩
   have hkn : qt [(100000, Blk.rigid cs)] [(100000, some (Blk.rigid cs'))] = [] := rfl
   have hkw : kwOf [(100000, Blk.rigid cs)] [(100000, some (Blk.rigid cs'))] = [100000] := rfl
   have hβ' : β' 100000 = β k.num := by
    have h0 : (100000 : Nat) ∉ qt [(100000, Blk.rigid cs)] [(100000, some (Blk.rigid cs'))] := by rw [hkn]; exact q1q
    rw [hst.beta 100000 h0]; exact if_pos rfl
   have hkeep : ∀ b0, b0 < w.heap.size → (∀ c0, β k.num ≠ some (b0, c0)) → w'.heap[b0]? = w.heap[b0]? := fun b0 hb0 h0 => hst.keep b0 hb0 fun k0 hk0 c0 => by
    rw [hkw] at hk0
    simp only [q1i, q1q, or_false] at hk0
    subst hk0
    simp only [if_true]; exact h0 c0
   have hr1 : (Blk.rigid cs').rep β w' H' k.num := by
    obtain ⟨b0, c0, arr, T, r1, r2, r3⟩ := hblk 100000 (Blk.rigid cs') q1k
    exact ⟨b0, c0, arr, T, hβ'.symm.trans r1, r2, Sats.congr (Heap.Le.refl _) (fun k' hk => by rw [hc'] at hk; cases hk) r3⟩
   refine ⟨u, H', β, rfl, ⟨hst.os, hst.tape, hst.output, hst.size, fun b0 hb0 hk0 => hkeep b0 hb0 fun c0 => hk0 k (by rw [hbk]; simp) c0, hst.hle, hst.hnew, hst.hon, fun q _ => rfl, fun q b2 hq bb0 c0 hβ0 => .inr ?_⟩, hv _ _ _ _ hsat, ⟨fun q b2 hq => ?_, fun q b2 hq bb0 c0 hβ0 => ?_, fun q q' b2 b3 hq hq' hne => ?_⟩⟩
   ·obtain ⟨b1, h1⟩ := hold q b2 hq
    exact ⟨q, by rw [h1]; simp, c0, hβ0⟩
   ·by_cases e : k = q
    ·subst e
     rw [hm, EM] at hq
     cases hq
     rw [hb']; exact hr1
    ·rw [hm, IM _ _ e] at hq
     refine Blk.rep_congr (hM.rep q b2 hq) hst.hle (fun _ _ => rfl) fun b0 c0 h0 => hkeep b0 (hM.own q b2 hq b0 c0 h0).2 fun c1 h1 => ?_
     exact hM.inj k q b b2 hbk hq e b0 c1 c0 h1 h0
   ·obtain ⟨b1, h1⟩ := hold q b2 hq
    obtain ⟨h2, h3⟩ := hM.own q b1 h1 bb0 c0 hβ0
    refine ⟨?_, q1J h3 hst.size⟩
    cases hH : H' bb0 with
    | none => rfl
    | some cs0 =>
     rcases hst.hnew bb0 (by rw [hH]; simp) with h4 | h4
     ·exact absurd h2 h4
     ·omega
   ·obtain ⟨b4, h4⟩ := hold q b2 hq
    obtain ⟨b5, h5⟩ := hold q' b3 hq'
    exact hM.inj q q' b4 b5 h4 h5 hne
def DOk(D:List Int):Prop:=D.length≤1048576∧ ∀z∈D,Int.natAbs z≤9223372036854775808
theorem Dv: ∀D:List Int,D.flatMap (cellsC (.int .i64))=diC D
 |[]=>rfl
 |z::r=>by
  rw[q11,Dv r];rfl
theorem Gc(D:List Int):argC (.sl (.int .i64)) D=qe D .dl:=by
 show AV.c (.one (.abs (flP (D.flatMap (cellsC (.int .i64))) D.length)))=AV.c (.one (.abs (diP D)))
 rw[Dv];rfl
theorem VO{f:FuncId}(hs:Sig P f (argsE [.sl (.int .i64)] D) (.c (.one (.val (.bool (decide (D.length≤500))))))):qw D P f (qx (.light (decide (D.length≤500)))):=by
 intro vs s v s' hv hvs hsk
 have hv:(match(generalizing:=false) vs with|[.dl]=>RO.ok (.bb (decide (D.length≤500))) s|_=> .no [26])=RO.ok v s':=hv
 split at hv
 ·injection hv with h1 h2
  subst h1;subst h2
  refine vQ (vs:=[.dl]) ?_ hsk trivial (by simp)
  show Sig P f [qe D .dl] _
  rw[←Gc];exact hs
 ·cases hv
theorem Rn(D:List Int)(j n:Nat)(hn:0<n):(if D.length≤min j D.length then(0:Int)else D.getD (min j D.length) 0%(n:Int))=((outc D j n:Nat):Int):=by
 unfold outc
 by_cases h:D.length≤j
 ·rw[if_pos (by omega),q17 h];rfl
 ·have hj:j<D.length:=by omega
  rw[if_neg (by omega),show min j D.length=j by omega,q16 hj,q12,q16 hj]
  show D[j]%(n:Int)=(((D[j]%(n:Int)).toNat:Nat):Int)
  have:=Int.emod_nonneg D[j] (show(n:Int)≠0 by omega)
  omega
theorem XS{f:FuncId}(hD:DOk D)(hs: ∀(l:List Int)(j:Nat)(m:Int),DOk l→j≤l.length→0<m→Bnd (.int .i64) (.n 1099511627776) m→
   SigG P f (.c (.one (.loc 100000 0))::argsE [.int .i64] m) [(100000,.rigid (qg (.pr (.sl (.int .i64)) (.nat .i64)) (l,j)))] (.c (.one (.val (.int .i64 (if l.length≤j then(0:Int)else l.getD j 0%m)))))
    [(100000,some (.rigid (qg (.pr (.sl (.int .i64)) (.nat .i64)) (if l.length≤j then(l,j)else(l,j+1)))))]):qw D P f (qx .next):=by
 have cells: ∀j:Nat,qg (.pr (.sl (.int .i64)) (.nat .i64)) (D,j)=[.abs (diP D),.val (.int .i64 ((j:Nat):Int))]:=fun j=>by
  show[Atom.abs (flP (D.flatMap (cellsC (.int .i64))) D.length),.val (.int .i64 ((j:Nat):Int))]=_
  rw[Dv];rfl
 intro vs s v s' hv hvs hsk
 have hv:(match(generalizing:=false) vs with
  |[.pp k 0,.nn .i64 n]=> @S.rec (fun _=>RO) (fun m nx dn sc=>match(generalizing:=false) mget m k with
   |some (.di j)=> @Bool.rec (fun _=>RO) (.no [28]) (match(generalizing:=false) sc with
    |[]=> .need n
    |(n',x)::r=> @Bool.rec (fun _=>RO) (.no [29]) (.ok (.nn .i64 x) ⟨mset m k (some (.di (Nat.succ j))),nx,Nat.succ dn,r⟩) (Nat.beq n n')) (Nat.beq j dn&&(Nat.blt 0 n&&Nat.blt n 1099511627776))
   |_=> .no [30]) s
  |_=> .no [31])= .ok v s':=hv
 split at hv
 ·rename_i k n _
  obtain⟨m,nx,dn,sc⟩:=s
  have hv:(match(generalizing:=false) mget m k with
   |some (.di j)=> @Bool.rec (fun _=>RO) (.no [28]) (match(generalizing:=false) sc with
    |[]=> .need n
    |(n',x)::r=> @Bool.rec (fun _=>RO) (.no [29]) (.ok (.nn .i64 x) ⟨mset m k (some (.di (Nat.succ j))),nx,Nat.succ dn,r⟩) (Nat.beq n n')) (Nat.beq j dn&&(Nat.blt 0 n&&Nat.blt n 1099511627776))
   |_=> .no [30])= .ok v s':=hv
  split at hv
  ·rename_i j hk
   cases hb:(Nat.beq j dn&&(Nat.blt 0 n&&Nat.blt n 1099511627776))with
   |false=>rw[hb]at hv;cases hv
   |true=>
    rw[hb]at hv
    simp only[q0Q]at hb
    obtain⟨h1,h2,h3⟩:=hb
    have h1:j=dn:=q1B h1
    have h2:0<n:=q1D h2
    have h3:n<1099511627776:=q1D h3
    subst h1
    cases sc with
    |nil=>cases hv
    |cons q r=>
     obtain⟨n',x⟩:=q
     have hv: @Bool.rec (fun _=>RO) (.no [29]) (.ok (.nn .i64 x) ⟨mset m k (some (.di (Nat.succ j))),nx,Nat.succ j,r⟩) (Nat.beq n n')= .ok v s':=hv
     cases hn:Nat.beq n n' with
     |false=>rw[hn]at hv;cases hv
     |true=>
      rw[hn]at hv
      have hv3:RO.ok (.nn .i64 x) ⟨mset m k (some (.di (Nat.succ j))),nx,Nat.succ j,r⟩= .ok v s':=hv
      injection hv3 with g1 g2
      subst g1;subst g2
      have:=q1B hn
      subst this
      have hx:outc D j n=x:=hsk.agr 0 (n,x) rfl
      have hs2:SOK D ⟨mset m k (some (.di (Nat.succ j))),nx,Nat.succ j,r⟩:=by
       refine⟨fun q b hq=>?_,fun q hq=>?_,fun i p hp=>?_⟩
       ·have hq:mget (mset m k (some (.di (Nat.succ j)))) q=some b:=hq
        rw[jr]at hq
        split at hq
        ·cases hq;exact trivial
        ·exact hsk.ok q b hq
       ·have hq:mget (mset m k (some (.di (Nat.succ j)))) q≠none:=hq
        rw[jr]at hq
        split at hq
        ·rename_i e;subst e;exact hsk.lt k (show mget m k≠none by rw[hk];simp)
        ·exact hsk.lt q hq
       ·have:=hsk.agr (i+1) p hp
        rw[←this]
        show outc D (j+1+i) p.1=outc D (j+(i+1)) p.1
        rw[show j+1+i=j+(i+1) by omega]
      have hsg:=hs D (min j D.length) (n:Int) hD (Nat.min_le_right _ _) (by omega) (by show Int.natAbs (n:Int)≤_;simp;omega)
      have hn2:(if D.length≤min j D.length then(D,min j D.length)else(D,min j D.length+1))=((D,min (j+1) D.length):List Int×Nat):=by
       by_cases h:D.length≤j
       ·rw[if_pos (by omega),show min j D.length=min (j+1) D.length by omega]
       ·rw[if_neg (by omega),show min j D.length+1=min (j+1) D.length by omega]
      rw[Rn D j n h2,hx,hn2,cells,cells]at hsg
      refine Su (s:=⟨m,nx,j,(n,x)::r⟩) (b:= .di j) (b':= .di (j+1)) (vs:=[.nn .i64 n]) (v:= .nn .i64 x) hk rfl rfl (fun _=>rfl) (fun _=>rfl) (fun β β' H us h=>?_) (fun β β' H u h=>h) trivial (by simp) hs2 rfl rfl hsg
      match us,h with
      |[],h=>exact h.elim
      |[u],⟨h1,h2⟩=>exact⟨h1,h2⟩
      |_::_::_,⟨_,h⟩=>exact h.elim
  ·cases hv
 ·cases hv
theorem Tq{β:Bm}{w:World}{H:Heap}{k:Nat}{x:Blk}{b0 c0:Nat}(h:x.rep β w H k)(h0:β k=some (b0,c0)):b0<w.heap.size:=by
 cases x with
 |rigid cs=>
  obtain⟨b1,c1,arr,T,h1,h2,_⟩:=h
  rw[h0]at h1;cases h1;exact(Array.getElem?_eq_some_iff.1 h2).1
 |grow es cs=>
  rcases h with⟨h1,_⟩|⟨b1,c1,arr,T,h1,h2,_⟩
  ·rw[h0]at h1;cases h1
  ·rw[h0]at h1;cases h1;exact(Array.getElem?_eq_some_iff.1 h2).1
 |mp l=>
  obtain⟨b1,c1,h1,h2⟩:=h
  rw[h0]at h1;cases h1;exact(Array.getElem?_eq_some_iff.1 h2).1
 |mc l=>
  obtain⟨b1,c1,vs,h1,h2,_⟩:=h
  rw[h0]at h1;cases h1;exact(Array.getElem?_eq_some_iff.1 h2).1
theorem Ti{f:FuncId}{k':Key}{b:KB}{vs:List V}{s s':S}(hsucc:s.nx.succ=some k')(hbok:b.ok)(hagr:AgrS D s')(hm:s'.m=mset s.m s.nx (some b))(hnx:s'.nx=k')
  (h:SigG P f (vs.map (qe D)) [] (qe D (.pp s.nx 0)) [(s.nx.num,some (b.blk D))])(hs:SOK D s):CallOk D P f vs s (.pp s.nx 0) s':=by
 have hnum:=Key.succ_num hsucc
 have hget: ∀q,mget s'.m q=if s.nx=q then some b else mget s.m q:=fun q=>by rw[hm,jr]
 have hs':SOK D s':=by
  refine⟨fun q b2 hq=>?_,fun q hq=>?_,hagr⟩
  ·rw[hget]at hq
   split at hq
   ·cases hq;exact hbok
   ·exact hs.ok q b2 hq
  ·rw[hget]at hq
   rw[hnx,hnum]
   split at hq
   ·rename_i e;rw[←e];omega
   ·have:=hs.lt q hq;omega
 refine⟨h.1,hs',by rw[hnx,hnum];omega,trivial,by simp,fun q hq=>?_,fun us w H β hargs hM hon hdom=>?_⟩
 ·rw[hget]at hq
  split at hq
  ·rename_i e;rw[←e];exact .inr (q1G _)
  ·exact .inl hq
 ·refine Calls.mono (h.2 us w H β hargs (fun p hp=>by simp at hp) (fun p hp=>by simp at hp) hon) ?_
  rintro e w' ⟨u,H',β',rfl,hst,hsat,hblk⟩
  have hkn:qt [] [(s.nx.num,some (b.blk D))]=[s.nx.num]:=rfl
  have hkw:kwOf [] [(s.nx.num,some (b.blk D))]=[]:=rfl
  have hkd:jg [(s.nx.num,some (b.blk D))]=[]:=rfl
  rw[hkn,hkw,hkd]at hst
  have hb: ∀n,n≠s.nx.num→β' n=β n:=fun n hn=>hst.beta n (by simpa using hn)
  have hq0: ∀q,mget s.m q≠none→q.num≠s.nx.num:=fun q hq=>Nat.ne_of_lt (hs.lt q hq)
  have hnone:β s.nx.num=none:=hdom _ (q1G _) (by rw[hnx,hnum];omega)
  have hkeep: ∀b0,b0<w.heap.size→w'.heap[b0]?=w.heap[b0]?:=fun b0 hb0=>hst.keep b0 hb0 fun k0 hk0=>by simp at hk0
  have hnew: ∀b0 c0,β' s.nx.num=some (b0,c0)→H' b0=none∧w.heap.size≤b0:=fun b0 c0 h0=>by
   obtain⟨h1,h2⟩:=hst.fresh s.nx.num (by simp) b0 c0 h0
   refine⟨h1,?_⟩
   rcases h2 with h2|⟨k0,h2,_⟩
   ·exact h2
   ·simp at h2
  have hold: ∀q b2,mget s.m q=some b2→ ∀bb c,β q.num=some (bb,c)→H' bb=none∧bb<w.heap.size:=fun q b2 hq bb c h0=>by
   obtain⟨h1,h2⟩:=hM.own q b2 hq bb c h0
   refine⟨?_,h2⟩
   cases hH:H' bb with
   |none=>rfl
   |some cs0=>
    rcases hst.hnew bb (by rw[hH];simp)with h4|h4
    ·exact absurd h1 h4
    ·omega
  have hsize: ∀b0 c0,β' s.nx.num=some (b0,c0)→b0<w'.heap.size:=fun b0 c0 h0=>by
   have hr:(b.blk D).rep β' w' H' s.nx.num:=hblk s.nx.num (b.blk D) q1k
   exact Tq hr h0
  refine⟨u,H',β',rfl,⟨hst.os,hst.tape,hst.output,hst.size,fun b0 hb0 _=>hkeep b0 hb0,hst.hle,hst.hnew,hst.hon,fun n hn=>hb n (by rw[hnx,hnum]at hn;omega),fun q b2 hq bb c h0=>?_⟩,hsat,⟨fun q b2 hq=>?_,fun q b2 hq bb c h0=>?_,fun q q' b2 b3 hq hq' hne bb c c' h0 h1=>?_⟩⟩
  ·rw[hget]at hq
   split at hq
   ·rename_i e;subst e;exact .inl (hnew bb c h0).2
   ·rw[hb _ (hq0 q (by rw[hq];simp))]at h0
    exact .inr ⟨q,by rw[hq];simp,c,h0⟩
  ·rw[hget]at hq
   split at hq
   ·rename_i e;subst e;cases hq
    exact hblk _ _ q1k
   ·have hr:=hM.rep q b2 hq
    refine Blk.rep_congr hr hst.hle (fun n hn=>?_) fun b0 c0 h0=>hkeep b0 (hM.own q b2 hq b0 c0 h0).2
    refine hb n fun e=>?_
    subst e
    rcases hn with hn|hn
    ·exact hq0 q (by rw[hq];simp) hn.symm
    ·exact(CL (D:=D) b2 0).2.1 β w H q.num _ hr hn hnone
  ·rw[hget]at hq
   split at hq
   ·rename_i e;subst e;exact⟨(hnew bb c h0).1,hsize bb c h0⟩
   ·rw[hb _ (hq0 q (by rw[hq];simp))]at h0
    obtain⟨h2,h3⟩:=hold q b2 hq bb c h0
    exact⟨h2,q1J h3 hst.size⟩
  ·rw[hget]at hq hq'
   split at hq
   ·rename_i e;subst e
    rw[if_neg hne]at hq'
    rw[hb _ (hq0 q' (by rw[hq'];simp))]at h1
    have:=(hold q' b3 hq' bb c' h1).2
    have:=(hnew bb c h0).2
    omega
   ·rename_i e
    rw[hb _ (hq0 q (by rw[hq];simp))]at h0
    split at hq'
    ·rename_i e2;subst e2
     have:=(hold q b2 hq bb c h0).2
     have:=(hnew bb c' h1).2
     omega
    ·rw[hb _ (hq0 q' (by rw[hq'];simp))]at h1
     exact hM.inj q q' b2 b3 hq hq' hne bb c c' h0 h1
theorem XU{f:FuncId}(hD:DOk D)(hs: ∀(d:Nat)(l:List Int),DOk l→SigG P f (argsE [.sl (.int .i64)] l) [] (.c (.one (.loc d 0))) [(d,some (.rigid (qg (.pr (.sl (.int .i64)) (.nat .i64)) (l,0))))]):qw D P f (qx .roll):=by
 intro vs s v s' hv hvs hsk
 have hv:(match(generalizing:=false) vs with|[.dl]=> @S.rec (fun _=>RO) (fun m nx dn sc=>putK m nx dn sc (.pp nx 0) (.di 0)) s|_=> .no [27])=RO.ok v s':=hv
 split at hv
 ·obtain⟨m,nx,dn,sc⟩:=s
  have hv2:putK m nx dn sc (.pp nx 0) (.di 0)=RO.ok v s':=hv
  unfold putK at hv2
  split at hv2
  ·rename_i k' hk'
   injection hv2 with h1 h2
   subst h1;subst h2
   have h:=hs nx.num D hD
   have hc:qg (.pr (.sl (.int .i64)) (.nat .i64)) (D,0)=[.abs (diP D),.val (.int .i64 ((min 0 D.length:Nat):Int))]:=by
    rw[Nat.zero_min]
    show[Atom.abs (flP (D.flatMap (cellsC (.int .i64))) D.length),.val (.int .i64 ((0:Nat):Int))]=_
    rw[Dv];rfl
   rw[hc]at h
   refine Ti (s:=⟨m,nx,dn,sc⟩) (b:= .di 0) (vs:=[.dl]) hk' trivial hsk.agr rfl rfl ?_ hsk
   show SigG P f [qe D .dl] _ _ _
   rw[←Gc];exact h
  ·cases hv2
 ·cases hv
end
end
noncomputable section
section
variable {D:List Int} {P:Program}
theorem Jo{f:FuncId}{vs:List V}{v:V}{s:S}{nx:Key}{s1:S}(h:CallOk D P f vs ⟨mnew,nx,0,[]⟩ v s1)(hs:SOK D s)(hp: ∀β β' H H' u,(qe D v).sat β H u→(qe D v).sat β' H' u)
  (ha: ∀β β' H us,AVs β H (vs.map (qe D)) us→AVs β' H (vs.map (qe D)) us):CallOk D P f vs s v s:=by
 refine⟨h.callable,hs,q1G _,h.ok,h.ne,fun k hk=> .inl hk,fun us w H β hargs hM hon hdom=>?_⟩
 refine Calls.mono (h.calls us w H (fun _=>none) (ha _ _ _ _ hargs) ⟨fun k b hb=>?_,fun k b hb=>?_,fun k k' b b' hb=>?_⟩ hon fun _ _ _=>rfl) ?_
 ·have hb:mget mnew k=some b:=hb
  rw[vO]at hb;cases hb
 ·have hb:mget mnew k=some b:=hb
  rw[vO]at hb;cases hb
 ·have hb:mget mnew k=some b:=hb
  rw[vO]at hb;cases hb
 rintro e w' ⟨u,H',β',rfl,hst,hsat,_⟩
 have hkeep: ∀b,b<w.heap.size→w'.heap[b]?=w.heap[b]?:=fun b hb=>hst.keep b hb fun k hk=>absurd (vO k) hk
 refine⟨u,H,β,rfl,⟨hst.os,hst.tape,hst.output,hst.size,fun b hb _=>hkeep b hb,Heap.Le.refl _,fun b hb=> .inl hb,fun b cs hb=>?_,fun k _=>rfl,fun k b hb bb c hβ=> .inr ⟨k,by rw[hb];simp,c,hβ⟩⟩,hp _ _ _ _ _ hsat,⟨fun k b hb=>?_,fun k b hb bb c hβ=>?_,hM.inj⟩⟩
 ·obtain⟨T,fz,e⟩:=hon b cs hb
  exact⟨T,fz,by rw[hkeep b (hon.lt (by rw[hb];simp))];exact e⟩
 ·exact Blk.rep_congr (hM.rep k b hb) (Heap.Le.refl _) (fun _ _=>rfl) (fun bb c hβ=>hkeep bb (hM.own k b hb bb c hβ).2)
 ·obtain⟨h3,h4⟩:=hM.own k b hb bb c hβ
  exact⟨h3,q1J h4 hst.size⟩
theorem q05{f:FuncId}{nx:Key}{s1:S}(h:CallOk D P f [] ⟨mnew,nx,0,[]⟩ (.bb true) s1):qw D P f (qx .tru):=by
 intro vs s v s' hv hvs hsk
 have hv:(match(generalizing:=false) vs with|[]=>RO.ok (.bb true) s|_=> .no [39])=RO.ok v s':=hv
 split at hv
 ·injection hv with h1 h2
  subst h1;subst h2
  exact Jo h hsk (fun β β' H H' u h=>h) (fun β β' H us h=>by
   match us,h with
   |[],_=>exact trivial
   |_::_,h=>exact h.elim)
 ·cases hv
theorem St{l l':List Nat}(h:beqN l l'=true):l=l':=Gd.1 h
theorem Ql{a b:V}(h:bq1 a b=true):a=b:=by
 unfold bq1 at h
 split at h
 ·split at h
  ·simp only[qeq,q0Q,beq_iff_eq]at h
   obtain⟨⟨h1,h2⟩,h3⟩:=h
   have h1:=q1B h1;have h2:=q1B h2
   subst h1;subst h2;subst h3;rfl
  ·cases h
 ·split at h
  ·rw[q1B h]
  ·cases h
 ·split at h
  ·rw[q1B h]
  ·cases h
 ·split at h
  ·rw[show _=_ from beq_iff_eq.1 h]
  ·cases h
 ·split at h
  ·rw[St h]
  ·cases h
 ·cases h
theorem KY: ∀{l r:List V},bqL l r=true→l=r
 |[],[],_=>rfl
 |[],_::_,h=>by cases h
 |_::_,[],h=>by cases h
 |a::l,b::r,h=>by
  have h: @Bool.rec (fun _=>Bool) false (bqL l r) (bq1 a b)=true:=h
  cases hb:bq1 a b with
  |false=>rw[hb]at h;cases h
  |true=>rw[hb]at h;rw[Ql hb,KY (l:=l) h]
theorem Ep{a b:V}(h:bqV a b=true):a=b:=by
 unfold bqV at h
 split at h
 ·split at h
  ·simp only[q0Q]at h
   rw[q1B h.1,KY h.2]
  ·cases h
 ·split at h
  ·rw[KY h]
  ·cases h
 ·exact Ql h
theorem CN: ∀{l r:List V},bqA l r=true→l=r
 |[],[],_=>rfl
 |[],_::_,h=>by cases h
 |_::_,[],h=>by cases h
 |a::l,b::r,h=>by
  have h: @Bool.rec (fun _=>Bool) false (bqA l r) (bqV a b)=true:=h
  cases hb:bqV a b with
  |false=>rw[hb]at h;cases h
  |true=>rw[hb]at h;rw[Ep hb,CN (l:=l) h]
def zY(v:V):Bool:=match v with| .qq _ _ _| .nn _ _| .zz _ _| .bb _| .st _=>true|_=>false
def vG(v:V):Bool:=match v with| .nn _ _| .zz _ _| .bb _| .st _=>true|_=>false
def wC(v:V):Bool:=match v with| .tu l=>l.all vG|v=>vG v
def zZ(v:V):Bool:=match v with| .ag _ l=>l.all zY|v=>zY v
def arg1(v:V):Bool:=match v with| .qq s n d=>!(Nat.beq d 0)&&(Nat.beq (Nat.gcd n d) 1&&(!s||!(Nat.beq n 0)))| .nn _ _| .zz _ _| .bb _=>true|_=>false
def argB(v:V):Bool:=match v with| .ag w l=>Nat.beq w (wds l)&&l.all arg1|v=>arg1 v
theorem nbeq{a b:Nat}(h:(!(Nat.beq a b))=true):a≠b:=fun e=>by subst e;rw[Nat.beq_refl]at h;cases h
theorem Io{v:V}(h:arg1 v=true):v.un=true∧v.ok1:=by
 cases v with
 |qq s n d=>
  have h:(!(Nat.beq d 0)&&(Nat.beq (Nat.gcd n d) 1&&(!s||!(Nat.beq n 0))))=true:=h
  simp only[q0Q]at h
  obtain⟨h1,h2,h3⟩:=h
  refine⟨rfl,nbeq h1,q1B h2,fun e=>?_⟩
  subst e
  exact nbeq (by simpa using h3)
 |_=>first|exact⟨rfl,trivial⟩|(simp[arg1]at h;done)
theorem Nq{v:V}(h:argB v=true):v.ok∧v≠ .und:=by
 cases v with
 |ag w l=>
  have h:(Nat.beq w (wds l)&&l.all arg1)=true:=h
  simp only[q0Q]at h
  exact⟨⟨q1B h.1,fun x hx=>Io (List.all_eq_true.1 h.2 x hx)⟩,by simp⟩
 |qq s n d=>exact⟨(Io (v:= .qq s n d) h).2,by simp⟩
 |_=>first|(simp[argB,arg1]at h;done)|exact⟨trivial,by simp⟩
theorem JP: ∀{l:List V},l.all zY=true→ ∀k,jh k (cs D l)=false
 |[],_,k=>rfl
 |x::r,h,k=>by
  simp only[List.all_cons,q0Q]at h
  rw[vf,AM,JP h.2 k,Bool.or_false]
  have h1:=h.1
  cases x<;>first|(simp[zY]at h1;done)|rfl
theorem HU{v:V}(h:zZ v=true)(β β':Bm)(H:Heap)(u:Value)(hs:(qe D v).sat β H u):(qe D v).sat β' H u:=by
 have hm: ∀k,(qe D v).men k=false:=by
  intro k
  cases v with
  |ag w l=>exact JP (D:=D) (l:=l) h k
  |_=>first|(simp[zZ,zY]at h;done)|rfl
 exact AV.sat_congr (Heap.Le.refl _) (fun k hk=>by rw[hm k]at hk;cases hk) hs
theorem HV(β β':Bm)(H H':Heap): ∀{l:List V}{us:List Value},l.all vG=true→CmpSats β H (l.map (V.cmp D)) us→CmpSats β' H' (l.map (V.cmp D)) us
 |[],[],_,_=>trivial
 |[],_::_,_,h=>h.elim
 |_::_,[],_,h=>h.elim
 |x::r,a::us,h,⟨h1,h2⟩=>by
  simp only[List.all_cons,q0Q]at h
  refine⟨?_,HV β β' H H' h.2 h2⟩
  have h3:=h.1
  cases x<;>first|(simp[vG]at h3;done)|exact h1
theorem HW{v:V}(h:wC v=true)(β β':Bm)(H H':Heap)(u:Value)(hs:(qe D v).sat β H u):(qe D v).sat β' H' u:=by
 cases v with
 |tu l=>
  obtain⟨arr,h1,h2⟩:=(show∃arr:Array Value,u= .tuple arr∧CmpSats β H (l.map (V.cmp D)) arr.toList from hs)
  exact⟨arr,h1,HV β β' H H' (show l.all vG=true from h) h2⟩
 |_=>first|(simp[wC,vG]at h;done)|exact hs
theorem XR{f:FuncId}{L:List (List V×V)}{nx:Key}(hc: ∀p∈L,∃s1,CallOk D P f p.1 ⟨mnew,nx,0,[]⟩ p.2 s1)(hp: ∀p∈L,p.1.all zZ=true∧wC p.2=true):qw D P f (qx (.memo L)):=by
 intro vs s v s' hv hvs hsk
 induction L with
 |nil=>cases hv
 |cons p r ih=>
  have hv: @Bool.rec (fun _=>RO) (qx (.memo r) vs s) (.ok p.2 s) (bqA p.1 vs)= .ok v s':=hv
  cases hb:bqA p.1 vs with
  |false=>rw[hb]at hv;exact ih (fun q hq=>hc q (q1j _ hq)) (fun q hq=>hp q (q1j _ hq)) hv
  |true=>
   rw[hb]at hv
   have hv2:RO.ok p.2 s= .ok v s':=hv
   injection hv2 with h1 h2
   subst h1;subst h2
   have e:=CN hb
   obtain⟨s1,h1⟩:=hc p q1k
   obtain⟨h2,h3⟩:=hp p q1k
   rw[←e]
   refine Jo h1 hsk (fun β β' H H' u h=>HW h3 _ _ _ _ _ h) fun β β' H us h=>?_
   have: ∀(l:List V) us,l.all zZ=true→AVs β H (l.map (qe D)) us→AVs β' H (l.map (qe D)) us:=by
    intro l
    induction l with
    |nil=>intro us _ h;match us,h with
     |[],_=>exact trivial
     |_::_,h=>exact h.elim
    |cons x l ih=>
     intro us ha h
     simp only[List.all_cons,q0Q]at ha
     match us,h with
     |[],h=>exact h.elim
     |u::us,⟨h1,h2⟩=>exact⟨HU ha.1 _ _ _ _ h1,ih us ha.2 h2⟩
   exact this _ _ h2 h
theorem C0{x:Rat}(h1:smB x.num.natAbs=true)(h2:smB x.den=true):Bnd .rat (.n 31) x:=
 FQ h1 h2
end
end
noncomputable section
section
variable {D:List Int} {P:Program}
def ptV(p:V3):V:= .ag 9 [rV p.1,rV p.2.1,rV p.2.2]
theorem Yf(p:V3):(ptV p).okC:=⟨rfl,fun x hx=>by
 simp only[q1i,q1q,or_false]at hx
 rcases hx with rfl|rfl|rfl<;>exact⟨rfl,I0 _⟩⟩
theorem avPt(p:V3):(.c (.agg (qg tV3 p)):AV)=qe D (ptV p):=rfl
theorem PN{w:Nat}{a b c:Bool}{n d n' d' n'' d'':Nat}(h:(V.ag w [.qq a n d,.qq b n' d',.qq c n'' d'']).ok): ∃p:V3,a=decide (p.1.num<0)∧n=p.1.num.natAbs∧d=p.1.den∧b=decide (p.2.1.num<0)∧n'=p.2.1.num.natAbs∧d'=p.2.1.den∧c=decide (p.2.2.num<0)∧n''=p.2.2.num.natAbs∧d''=p.2.2.den∧w=9:=by
 obtain⟨hw,hl⟩:=(show w=wds _∧okL _ from h)
 obtain⟨h1,h2⟩:=jv.1 hl
 obtain⟨h2,h3⟩:=jv.1 h2
 obtain⟨h3,_⟩:=jv.1 h3
 obtain⟨x,e1,e2,e3⟩:=Ag h1.2
 obtain⟨y,e4,e5,e6⟩:=Ag h2.2
 obtain⟨z,e7,e8,e9⟩:=Ag h3.2
 exact⟨(x,y,z),e1,e2,e3,e4,e5,e6,e7,e8,e9,hw⟩
theorem FR{p:V3}(h:(smQ p.1.num.natAbs p.1.den&&(smQ p.2.1.num.natAbs p.2.1.den&&smQ p.2.2.num.natAbs p.2.2.den))=true):Bnd tV3 (bV3 31) p:=by
 simp only[smQ,q0Q]at h
 obtain⟨⟨h1,h2⟩,⟨h3,h4⟩,h5,h6⟩:=h
 exact⟨C0 h1 h2,C0 h3 h4,C0 h5 h6⟩
theorem AA{p:V3}(h:Bnd tV3 (bV3 31) p){b:Nat}(hb:31≤b:=by decide):Bnd tV3 (bV3 b) p:=⟨zi h.1 hb,zi h.2.1 hb,zi h.2.2 hb⟩
theorem XX{f:FuncId}(hs: ∀(r:Rat)(p:V3),Bnd .rat (.n 31) r→Bnd tV3 (bV3 31) p→Sig P f (argsE [.rat,tV3] (r,p)) (.c (.agg (qg tV3 (B5 r p))))):qw D P f (qx .vscl):=by
 intro vs s v s' hv hvs hsk
 have hv:(match(generalizing:=false) vs with
  |[.qq a b c,.ag _ [.qq a1 b1 c1,.qq a2 b2 c2,.qq a3 b3 c3]]=> @Bool.rec (fun _=>RO) (.no [45]) (.ok (.ag 9 [qmul a b c a1 b1 c1,qmul a b c a2 b2 c2,qmul a b c a3 b3 c3]) s) (smQ b c&&(smQ b1 c1&&(smQ b2 c2&&smQ b3 c3)))
  |_=> .no [46])=RO.ok v s':=hv
 split at hv
 ·rename_i a b c w a1 b1 c1 a2 b2 c2 a3 b3 c3 _
  have h1:=(hvs (.qq a b c) (by simp)).1
  have h2:=(hvs (.ag w [.qq a1 b1 c1,.qq a2 b2 c2,.qq a3 b3 c3]) (by simp)).1
  obtain⟨r,rfl,rfl,rfl⟩:=Ag h1
  obtain⟨p,rfl,rfl,rfl,rfl,rfl,rfl,rfl,rfl,rfl,rfl⟩:=PN h2
  have hv: @Bool.rec (fun _=>RO) (.no [45]) (.ok (.ag 9 [qmul (decide (r.num<0)) r.num.natAbs r.den (decide (p.1.num<0)) p.1.num.natAbs p.1.den,qmul (decide (r.num<0)) r.num.natAbs r.den (decide (p.2.1.num<0)) p.2.1.num.natAbs p.2.1.den,qmul (decide (r.num<0)) r.num.natAbs r.den (decide (p.2.2.num<0)) p.2.2.num.natAbs p.2.2.den]) s) (smQ r.num.natAbs r.den&&(smQ p.1.num.natAbs p.1.den&&(smQ p.2.1.num.natAbs p.2.1.den&&smQ p.2.2.num.natAbs p.2.2.den)))=RO.ok v s':=hv
  cases hb:(smQ r.num.natAbs r.den&&(smQ p.1.num.natAbs p.1.den&&(smQ p.2.1.num.natAbs p.2.1.den&&smQ p.2.2.num.natAbs p.2.2.den)))with
  |false=>rw[hb]at hv;cases hv
  |true=>
   rw[hb]at hv
   rw[q0Q]at hb
   have hv:RO.ok (.ag 9 [qmul (decide (r.num<0)) r.num.natAbs r.den (decide (p.1.num<0)) p.1.num.natAbs p.1.den,qmul (decide (r.num<0)) r.num.natAbs r.den (decide (p.2.1.num<0)) p.2.1.num.natAbs p.2.1.den,qmul (decide (r.num<0)) r.num.natAbs r.den (decide (p.2.2.num<0)) p.2.2.num.natAbs p.2.2.den]) s= .ok v s':=hv
   rw[Aw,Aw,Aw]at hv
   injection hv with g1 g2
   subst g1;subst g2
   have hr:Bnd .rat (.n 31) r:=by
    have:=hb.1
    simp only[smQ,q0Q]at this
    exact C0 this.1 this.2
   have h:=hs r p hr (FR hb.2)
   rw[avPt (D:=D)]at h
   exact vQ (vs:=[rV r,ptV p]) h hsk (V.okC_ok (Yf (B5 r p))) (by simp)
 ·cases hv
theorem Us{f:FuncId}(hs: ∀p q:V3,Bnd tV3 (bV3 31) p→Bnd tV3 (bV3 31) q→Sig P f (argsE [tV3,tV3] (p,q)) (.c (.one (.val (.bool (decide (p=q))))))):qw D P f (qx .vsm):=by
 intro vs s v s' hv0 hvs hsk
 have hv:(match(generalizing:=false) vs with
  |[.ag _ [.qq a1 b1 c1,.qq a2 b2 c2,.qq a3 b3 c3],.ag _ [.qq d1 e1 f1,.qq d2 e2 f2,.qq d3 e3 f3]]=> @Bool.rec (fun _=>RO) (.no [47]) (.ok (.bb (qeq a1 b1 c1 d1 e1 f1&&(qeq a2 b2 c2 d2 e2 f2&&qeq a3 b3 c3 d3 e3 f3))) s) ((smQ b1 c1&&(smQ b2 c2&&smQ b3 c3))&&(smQ e1 f1&&(smQ e2 f2&&smQ e3 f3)))
  |_=> .no [48])=RO.ok v s':=hv0
 clear hv0
 split at hv
 ·rename_i w a1 b1 c1 a2 b2 c2 a3 b3 c3 w' d1 e1 f1 d2 e2 f2 d3 e3 f3
  obtain⟨p,rfl,rfl,rfl,rfl,rfl,rfl,rfl,rfl,rfl,rfl⟩:=PN (hvs (.ag w [.qq a1 b1 c1,.qq a2 b2 c2,.qq a3 b3 c3]) (by simp)).1
  obtain⟨q,rfl,rfl,rfl,rfl,rfl,rfl,rfl,rfl,rfl,rfl⟩:=PN (hvs (.ag w' [.qq d1 e1 f1,.qq d2 e2 f2,.qq d3 e3 f3]) (by simp)).1
  cases hb:((smQ p.1.num.natAbs p.1.den&&(smQ p.2.1.num.natAbs p.2.1.den&&smQ p.2.2.num.natAbs p.2.2.den))&&(smQ q.1.num.natAbs q.1.den&&(smQ q.2.1.num.natAbs q.2.1.den&&smQ q.2.2.num.natAbs q.2.2.den)))with
  |false=>rw[hb]at hv;cases hv
  |true=>
   rw[hb,EV,EV,EV]at hv
   rw[q0Q]at hb
   have hv:RO.ok (.bb (decide (p.1=q.1)&&(decide (p.2.1=q.2.1)&&decide (p.2.2=q.2.2)))) s= .ok v s':=hv
   injection hv with g1 g2
   have h:=hs p q (FR hb.1) (FR hb.2)
   rw[show decide (p=q)=(decide (p.1=q.1)&&(decide (p.2.1=q.2.1)&&decide (p.2.2=q.2.2))) by rw[Bool.eq_iff_iff];simp[My]]at h
   subst g1;subst g2
   exact vQ (vs:=[ptV p,ptV q]) h hsk trivial (by simp)
 ·cases hv
def q0p(p:Pole):V:= .ag 12 [rV p.1.1,rV p.1.2.1,rV p.1.2.2,rV p.2]
theorem V8(a b c d:Rat):(V.ag 12 [rV a,rV b,rV c,rV d]).okC:=⟨rfl,fun x hx=>by
 simp only[q1i,q1q,or_false]at hx
 rcases hx with rfl|rfl|rfl|rfl<;>exact⟨rfl,I0 _⟩⟩
theorem Og{f:FuncId}(hs: ∀p:Pole,Bnd KD (.p (bV3 31) (.n 31)) p→Sig P f (argsE [KD] p) (.c (.agg (qg KC (Fk p))))):qw D P f (qx .lift4):=by
 intro vs s v s' hv0 hvs hsk
 have hv:(match(generalizing:=false) vs with
  |[.ag _ [.qq a1 b1 c1,.qq a2 b2 c2,.qq a3 b3 c3,.qq a b c]]=> @Bool.rec (fun _=>RO) (.no [49]) (.ok (.ag 12 [qmul a b c a1 b1 c1,qmul a b c a2 b2 c2,qmul a b c a3 b3 c3,.qq a b c]) s) ((smQ b1 c1&&(smQ b2 c2&&smQ b3 c3))&&smQ b c)
  |_=> .no [50])=RO.ok v s':=hv0
 clear hv0
 split at hv
 ·rename_i w a1 b1 c1 a2 b2 c2 a3 b3 c3 a b c
  obtain⟨hw,hl⟩:=(show w=wds _∧okL _ from(hvs (.ag w [.qq a1 b1 c1,.qq a2 b2 c2,.qq a3 b3 c3,.qq a b c]) (by simp)).1)
  obtain⟨h1,h2⟩:=jv.1 hl
  obtain⟨h2,h3⟩:=jv.1 h2
  obtain⟨h3,h4⟩:=jv.1 h3
  obtain⟨h4,_⟩:=jv.1 h4
  obtain⟨x,rfl,rfl,rfl⟩:=Ag h1.2
  obtain⟨y,rfl,rfl,rfl⟩:=Ag h2.2
  obtain⟨z,rfl,rfl,rfl⟩:=Ag h3.2
  obtain⟨r,rfl,rfl,rfl⟩:=Ag h4.2
  have hw:w=12:=hw
  subst hw
  cases hb:((smQ x.num.natAbs x.den&&(smQ y.num.natAbs y.den&&smQ z.num.natAbs z.den))&&smQ r.num.natAbs r.den)with
  |false=>rw[hb]at hv;cases hv
  |true=>
   rw[hb,Aw,Aw,Aw]at hv
   rw[q0Q]at hb
   injection hv with g1 g2
   subst g1;subst g2
   have hr:Bnd .rat (.n 31) r:=by
    have:=hb.2
    simp only[smQ,q0Q]at this
    exact C0 this.1 this.2
   have h:=hs ((x,y,z),r) ⟨FR (p:=(x,y,z)) hb.1,hr⟩
   exact vQ (vs:=[q0p ((x,y,z),r)]) (v:= .ag 12 [rV (r*x),rV (r*y),rV (r*z),rV r]) h hsk (V.okC_ok (V8 _ _ _ _)) (by simp)
 ·cases hv
end
end
noncomputable section
section
variable {D:List Int}
theorem q06:qw D Go.Proofs.Tryz.prog 16 (qx .sign):=Rs fun x hx=>OT.sig x hx (fun p hp=>by simp at hp)
theorem q07:qw D Go.Proofs.Tryz.prog 22 (qx .vsm):=Us fun p q hp hq=>TR.sig (p,q) ⟨AA hp,AA hq⟩ (fun p hp=>by simp at hp)
theorem q08:qw D Go.Proofs.Tryz.prog 24 (qx .frac):=XQ fun u v hu hv h0=>WQ.sig (u,v) ⟨hu,hv⟩ (fun p hp=>by simp at hp)
theorem q09:qw D Go.Proofs.Tryz.prog 25 (qx .int):=Uo fun z hz=>Zu.sig z (hz.mono (by decide)) (fun p hp=>by simp at hp)
theorem q0a:qw D Go.Proofs.Tryz.prog 26 (qx .neg):=q04 fun x hx=>Sl.sig x hx (fun p hp=>by simp at hp)
theorem q0b:qw D Go.Proofs.Tryz.prog 45 (qx .add):=Ul fun x y hx hy=>Sj.sig (x,y) ⟨hx,hy⟩ (fun p hp=>by simp at hp)
theorem q0c:qw D Go.Proofs.Tryz.prog 47 (qx .make):=Rq fun u v hu hv h0=>by have:=OR.sig (u,v) ⟨hu,hv⟩ (fun p hp=>by simp at hp);rw[show(Ja.res Ja.bs (u,v)).exp= .tup [.agg (qg .rat ((u:Rat)/(v:Rat))),.one (.val (.int .i64 (mkC' v)))]from rfl,show mkC' v=0 from if_neg h0]at this;exact this
theorem q0d:qw D Go.Proofs.Tryz.prog 48 (qx .mul):=Up fun x y hx hy=>Sk.sig (x,y) ⟨hx,hy⟩ (fun p hp=>by simp at hp)
theorem q0e:qw D Go.Proofs.Tryz.prog 52 (qx .max):=q02 fun x y hx hy=>Yx.sig (x,y) ⟨hx,hy⟩ (fun p hp=>by simp at hp)
theorem q0f:qw D Go.Proofs.Tryz.prog 54 (qx .idq):=Un fun x hx=>XP.sig x (Fd hx) (fun p hp=>by simp at hp)
theorem q0g:qw D Go.Proofs.Tryz.prog 57 (qx .same):=Rr fun x y hx hy=>OS.sig (x,y) ⟨hx,hy⟩ (fun p hp=>by simp at hp)
theorem q0h:qw D Go.Proofs.Tryz.prog 61 (qx .valid):=Oh fun x hx=>U5.sig x hx (fun p hp=>by simp at hp)
theorem q0i:qw D Go.Proofs.Tryz.prog 90 (qx .cmp):=Um fun x y hx hy=>Rx.sig (x,y) ⟨hx,hy⟩ (fun p hp=>by simp at hp)
theorem q0j:qw D Go.Proofs.Tryz.prog 91 (qx .quo):=Uq fun x y hx hy=>YF.sig (x,y) ⟨hx,hy⟩ (fun p hp=>by simp at hp)
theorem q0k:qw D Go.Proofs.Tryz.prog 92 (qx .sub):=Ur fun x y hx hy=>YH.sig (x,y) ⟨hx,hy⟩ (fun p hp=>by simp at hp)
theorem q0l:qw D Go.Proofs.Tryz.prog 93 (qx .int):=Uo fun z hz=>Yv.sig z (hz.mono (by decide)) (fun p hp=>by simp at hp)
theorem q0m:qw D Go.Proofs.Tryz.prog 94 (qx .add):=Ul fun x y hx hy=>Om.sig (x,y) ⟨hx,hy⟩ (fun p hp=>by simp at hp)
theorem q0n:qw D Go.Proofs.Tryz.prog 95 (qx .mul):=Up fun x y hx hy=>RE.sig (x,y) ⟨hx,hy⟩ (fun p hp=>by simp at hp)
theorem q0o:qw D Go.Proofs.Tryz.prog 96 (qx .idq):=Un fun x hx=>JS.sig x (Fd hx) (fun p hp=>by simp at hp)
theorem XY:qw D Go.Proofs.Tryz.prog 112 (qx .cmp):=Um fun x y hx hy=>Zq.sig (x,y) ⟨hx,hy⟩ (fun p hp=>by simp at hp)
theorem XZ:qw D Go.Proofs.Tryz.prog 115 (qx .bits):=Rp fun x hx=>WO.sig x hx (fun p hp=>by simp at hp)
theorem Y0:qw D Go.Proofs.Tryz.prog 122 (qx .valid):=Oh fun x hx=>TA.sig x hx (fun p hp=>by simp at hp)
theorem Y1:qw D Go.Proofs.Tryz.prog 127 (qx .sign):=Rs fun x hx=>Ox.sig x hx (fun p hp=>by simp at hp)
theorem Y2:qw D Go.Proofs.Tryz.prog 129 (qx .bits):=Rp fun x hx=>W0.sig x hx (fun p hp=>by simp at hp)
theorem Y3:qw D Go.Proofs.Tryz.prog 130 (qx .vsm):=Us fun p q hp hq=>TP.sig (p,q) ⟨AA hp,AA hq⟩ (fun p hp=>by simp at hp)
theorem Y4:qw D Go.Proofs.Tryz.prog 134 (qx .sub):=Ur fun x y hx hy=>ZD.sig (x,y) ⟨hx,hy⟩ (fun p hp=>by simp at hp)
theorem Y5:qw D Go.Proofs.Tryz.prog 159 (qx .lift4):=Og fun p hp=>q0H.sig p ⟨AA hp.1,zi hp.2 (by decide)⟩ (fun p hp=>by simp at hp)
theorem Y6:qw D Go.Proofs.Tryz.prog 182 (qx .same):=Rr fun x y hx hy=>Ov.sig (x,y) ⟨(Fd hx),(Fd hy)⟩ (fun p hp=>by simp at hp)
theorem Y7:qw D Go.Proofs.Tryz.prog 200 (qx .trim):=XW fun x hx=>K4 x hx (fun p hp=>by simp at hp)
theorem Y8:qw D Go.Proofs.Tryz.prog 229 (qx .over):=XT fun x y hx hy=>WT.sig (x,y) ⟨hx,hy⟩ (fun p hp=>by simp at hp)
theorem Y9:qw D Go.Proofs.Tryz.prog 231 (qx .lift4):=Og fun p hp=>WI.sig p ⟨AA hp.1,zi hp.2 (by decide)⟩ (fun p hp=>by simp at hp)
theorem Ya:qw D Go.Proofs.Tryz.prog 239 (qx .vscl):=XX fun r p hr hp=>K6.sig (r,p) ⟨zi hr (by decide),AA hp⟩ (fun p hp=>by simp at hp)
theorem Yb:qw D Go.Proofs.Tryz.prog 241 (qx .small):=VQ fun x u hx hu h0=>Wq.sig (x,u) ⟨hx,hu⟩ (fun p hp=>by(rcases q1i.1 hp with h|h)<;>first|(rw[h];exact h0)|simp at h)
theorem Yc:qw D Go.Proofs.Tryz.prog 256 (qx .quo):=Uq fun x y hx hy=>Sm.sig (x,y) ⟨hx,hy⟩ (fun p hp=>by simp at hp)
theorem Yd:qw D Go.Proofs.Tryz.prog 259 (qx .min):=q03 fun x y hx hy=>Yz.sig (x,y) ⟨hx,hy⟩ (fun p hp=>by simp at hp)
theorem Ye:qw D Go.Proofs.Tryz.prog 269 (qx .make):=Rq fun u v hu hv h0=>by have:=W4.sig (u,v) ⟨hu,hv⟩ (fun p hp=>by simp at hp);rw[show(IW.res IW.bs (u,v)).exp= .tup [.agg (qg .rat ((u:Rat)/(v:Rat))),.one (.val (.int .i64 (mkC' v)))]from rfl,show mkC' v=0 from if_neg h0]at this;exact this
def tbA:List (Nat×Pt):=[(16,.sign),(22,.vsm),(24,.frac),(25,.int),(26,.neg),(45,.add),(47,.make),(48,.mul),(52,.max),(54,.idq),(57,.same),(61,.valid),(90,.cmp),(91,.quo),(92,.sub),(93,.int),(94,.add),(95,.mul),(96,.idq),(112,.cmp),(115,.bits),(122,.valid),(127,.sign),(129,.bits),(130,.vsm),(134,.sub),(159,.lift4),(182,.same),(200,.trim),(229,.over),(231,.lift4),(239,.vscl),(241,.small),(256,.quo),(259,.min),(269,.make)]
theorem Ia: ∀p∈tbA,qw D Go.Proofs.Tryz.prog p.1 (qx p.2):=fun p hp=>by
 unfold tbA at hp
 simp only[q1i,q1q,or_false]at hp
 rcases hp with rfl|rfl|rfl|rfl|rfl|rfl|rfl|rfl|rfl|rfl|rfl|rfl|rfl|rfl|rfl|rfl|rfl|rfl|rfl|rfl|rfl|rfl|rfl|rfl|rfl|rfl|rfl|rfl|rfl|rfl|rfl|rfl|rfl|rfl|rfl|rfl
 ·exact q06
 ·exact q07
 ·exact q08
 ·exact q09
 ·exact q0a
 ·exact q0b
 ·exact q0c
 ·exact q0d
 ·exact q0e
 ·exact q0f
 ·exact q0g
 ·exact q0h
 ·exact q0i
 ·exact q0j
 ·exact q0k
 ·exact q0l
 ·exact q0m
 ·exact q0n
 ·exact q0o
 ·exact XY
 ·exact XZ
 ·exact Y0
 ·exact Y1
 ·exact Y2
 ·exact Y3
 ·exact Y4
 ·exact Y5
 ·exact Y6
 ·exact Y7
 ·exact Y8
 ·exact Y9
 ·exact Ya
 ·exact Yb
 ·exact Yc
 ·exact Yd
 ·exact Ye
end
end
noncomputable section
section
variable {D:List Int}
theorem DOk.bnd{l:List Int}(h:DOk l):Bnd (.sl (.int .i64)) (.s 1048576 (.n 9223372036854775808)) l:=⟨h.1,h.2⟩
theorem Me(hD:Bnd (.sl (.int .i64)) (.s 9223372036854775807 (.n 9223372036854775808)) D):qw D Go.Proofs.Tryz.prog 5 (qx (.light (decide (D.length≤500)))):=VO (VB.sig D hD (fun p hp=>by simp at hp))
theorem VU(hD:DOk D):qw D Go.Proofs.Tryz.prog 7 (qx .roll):=XU hD fun d l hl=>V4.sig d l hl.bnd (fun p hp=>by simp at hp)
theorem VT(hD:DOk D):qw D Go.Proofs.Tryz.prog 11 (qx .next):=XS hD fun l j m hl hj h0 hm=>by
 have h:=V1.sig (l,j) m ⟨hl.bnd,(show j≤1048576 from q1H hj hl.1)⟩ hm (fun p hp=>by(rcases q1i.1 hp with h|h)<;>first|(rw[h];exact h0)|simp at h)
 exact h
end
end
noncomputable section
section
variable {D:List Int} {P:Program}
theorem BY{x:Blk}(hm: ∀n,x.men n=false){β β':Bm}{w:World}{H:Heap}{k k':Nat}(e:β' k'=β k)(h:x.rep β w H k):x.rep β' w H k':=by
 cases x with
 |rigid cs=>
  obtain⟨b,c,arr,T,h1,h2,h3⟩:=h
  exact⟨b,c,arr,T,e.trans h1,h2,Sats.congr (Heap.Le.refl _) (fun n hn=>by rw[show jh n cs=false from hm n]at hn;cases hn) h3⟩
 |grow es cs=>
  rcases h with⟨h1,h2⟩|⟨b,c,arr,T,h1,h2,h3,h4,h5⟩
  ·exact .inl ⟨e.trans h1,h2⟩
  ·exact .inr ⟨b,c,arr,T,e.trans h1,h2,h3,h4,Sats.congr (Heap.Le.refl _) (fun n hn=>by rw[show jh n cs=false from hm n]at hn;cases hn) h5⟩
 |mp l=>obtain⟨b,c,h1,h2⟩:=h;exact⟨b,c,e.trans h1,h2⟩
 |mc l=>
  obtain⟨b,c,vs,h1,h2,h3⟩:=h
  exact⟨b,c,vs,e.trans h1,h2,CmpSats.congr (Heap.Le.refl _) (fun n hn=>by rw[show menC n (l.map (·.2))=false from hm n]at hn;cases hn) h3⟩
theorem Pg{f:FuncId}{κ k nx:Key}{b0 b b1:KB}{vs0 vs:List V}{v:V}{s s1:S}(hrun:CallOk D P f vs0 ⟨mset mnew κ (some b0),nx,0,[]⟩ v s1)(hκ:κ.num<nx.num)
  (hk:mget s.m k=some b)(hblk:b.blk D=b0.blk D)(h1:mget s1.m κ=some b1)(hend:b1.blk D=b0.blk D)(hm: ∀n,(b0.blk D).men n=false)(hs:SOK D s)(hp: ∀β β' H u,(qe D v).sat β H u→(qe D v).sat β' H u)
  (ha: ∀β β' H us,β' κ.num=β k.num→AVs β H (vs.map (qe D)) us→AVs β' H (vs0.map (qe D)) us):CallOk D P f vs s v s:=by
 refine⟨hrun.callable,hs,q1G _,hrun.ok,hrun.ne,fun k hk=> .inl hk,fun us w H β hargs hM hon hdom=>?_⟩
 have hone: ∀q b2,mget (mset mnew κ (some b0)) q=some b2→q=κ∧b2=b0:=fun q b2 hq=>by
  rw[jr]at hq
  split at hq
  ·rename_i e;cases hq;exact⟨e.symm,rfl⟩
  ·rw[vO]at hq;cases hq
 have hr0:=hM.rep k b hk
 rw[hblk]at hr0
 refine Calls.mono (hrun.calls us w H (fun n=>if n=κ.num then β k.num else none) (ha _ _ _ _ (by simp) hargs) ⟨fun q b2 hq=>?_,fun q b2 hq bb c h0=>?_,fun q q' b2 b3 hq hq' hne=>?_⟩ hon fun n h2 h3=>?_) ?_
 ·obtain⟨rfl,rfl⟩:=hone q b2 hq
  exact BY hm (by simp) hr0
 ·obtain⟨rfl,rfl⟩:=hone q b2 hq
  simp only[if_true]at h0
  exact hM.own k b hk bb c h0
 ·obtain⟨e1,_⟩:=hone q b2 hq
  obtain⟨e2,_⟩:=hone q' b3 hq'
  exact absurd (e1.trans e2.symm) hne
 ·have h2:nx.num≤n:=h2
  exact if_neg (by omega)
 rintro e w' ⟨u,H',β',rfl,hst,hsat,hM'⟩
 have hkeep: ∀b',b'<w.heap.size→(∀c,β k.num≠some (b',c))→w'.heap[b']?=w.heap[b']?:=fun b' hb h0=>hst.keep b' hb fun q hq c=>by
  cases hq2:mget (mset mnew κ (some b0)) q with
  |none=>exact absurd hq2 hq
  |some b2=>
   obtain⟨rfl,_⟩:=hone q b2 hq2
   simp only[if_true];exact h0 c
 have hβ':β' κ.num=β k.num:=by
  rw[hst.beta κ.num (.inl hκ)];exact if_pos rfl
 have hsz:=hst.size
 refine⟨u,H',β,rfl,⟨hst.os,hst.tape,hst.output,hsz,fun b' hb h0=>hkeep b' hb fun c=>h0 k (by rw[hk];simp) c,hst.hle,hst.hnew,hst.hon,fun _ _=>rfl,fun q b2 hq bb c h0=> .inr ⟨q,by rw[hq];simp,c,h0⟩⟩,hp _ _ _ _ hsat,⟨fun q b2 hq=>?_,fun q b2 hq bb c h0=>?_,hM.inj⟩⟩
 ·by_cases e:q=k
  ·subst e
   rw[hk]at hq;cases hq
   have hr1:=hM'.rep κ b1 h1
   rw[hend]at hr1
   rw[hblk]
   exact BY hm hβ'.symm hr1
  ·exact Blk.rep_congr (hM.rep q b2 hq) hst.hle (fun _ _=>rfl) fun bb c h0=>hkeep bb (hM.own q b2 hq bb c h0).2 fun c1 h1=>hM.inj q k b2 b hq hk e bb c c1 h0 h1
 ·obtain⟨h2,h3⟩:=hM.own q b2 hq bb c h0
  refine⟨?_,q1J h3 hsz⟩
  cases hH:H' bb with
  |none=>rfl
  |some cs0=>
   rcases hst.hnew bb (by rw[hH];simp)with h4|h4
   ·exact absurd h2 h4
   ·omega
theorem QC{f:FuncId}{κ k nx K k':Key}{b0 b b1 bN bM:KB}{vs0 vs:List V}{v0 v:V}{s s1:S}(hrun:CallOk D P f vs0 ⟨mset mnew κ (some b0),nx,0,[]⟩ v0 s1)(hκ:κ.num<nx.num)
  (hk:mget s.m k=some b)(hblk:b.blk D=b0.blk D)(h1:mget s1.m κ=some b1)(hend:b1.blk D=b0.blk D)(hm: ∀n,(b0.blk D).men n=false)
  (hK:mget s1.m K=some bM)(hne:K≠κ)(hN:bM.blk D=bN.blk D)(hmN: ∀n,(bN.blk D).men n=false)(hbok:bN.ok)(hsucc:s.nx.succ=some k')(hs:SOK D s)(hv:v.ok)(hvn:v≠ .und)
  (hp: ∀β β' H u,β' s.nx.num=β K.num→(qe D v0).sat β H u→(qe D v).sat β' H u)
  (ha: ∀β β' H us,β' κ.num=β k.num→AVs β H (vs.map (qe D)) us→AVs β' H (vs0.map (qe D)) us):CallOk D P f vs s v ⟨mset s.m s.nx (some bN),k',s.dn,s.sc⟩:=by
 have hnum:=Key.succ_num hsucc
 have hget: ∀q,mget (mset s.m s.nx (some bN)) q=if s.nx=q then some bN else mget s.m q:=fun q=>jr _ _ _ _
 have hq0: ∀q,mget s.m q≠none→q.num≠s.nx.num:=fun q hq=>Nat.ne_of_lt (hs.lt q hq)
 refine⟨hrun.callable,⟨fun q b2 hq=>?_,fun q hq=>?_,hs.agr⟩,by show _≤k'.num;omega,hv,hvn,fun q hq=>?_,fun us w H β hargs hM hon hdom=>?_⟩
 ·rw[hget]at hq
  split at hq
  ·cases hq;exact hbok
  ·exact hs.ok q b2 hq
 ·rw[hget]at hq
  show q.num<k'.num
  split at hq
  ·rename_i e;rw[←e];omega
  ·have:=hs.lt q hq;omega
 ·rw[hget]at hq
  split at hq
  ·rename_i e;rw[←e];exact .inr (q1G _)
  ·exact .inl hq
 have hone: ∀q b2,mget (mset mnew κ (some b0)) q=some b2→q=κ∧b2=b0:=fun q b2 hq=>by
  rw[jr]at hq
  split at hq
  ·rename_i e;cases hq;exact⟨e.symm,rfl⟩
  ·rw[vO]at hq;cases hq
 have hr0:=hM.rep k b hk
 rw[hblk]at hr0
 refine Calls.mono (hrun.calls us w H (fun n=>if n=κ.num then β k.num else none) (ha _ _ _ _ (by simp) hargs) ⟨fun q b2 hq=>?_,fun q b2 hq bb c h0=>?_,fun q q' b2 b3 hq hq' hne=>?_⟩ hon fun n h2 h3=>?_) ?_
 ·obtain⟨rfl,rfl⟩:=hone q b2 hq
  exact BY hm (by simp) hr0
 ·obtain⟨rfl,rfl⟩:=hone q b2 hq
  simp only[if_true]at h0
  exact hM.own k b hk bb c h0
 ·obtain⟨e1,_⟩:=hone q b2 hq
  obtain⟨e2,_⟩:=hone q' b3 hq'
  exact absurd (e1.trans e2.symm) hne
 ·have h2:nx.num≤n:=h2
  exact if_neg (by omega)
 rintro e w' ⟨u,H',β',rfl,hst,hsat,hM'⟩
 have hkeep: ∀b',b'<w.heap.size→(∀c,β k.num≠some (b',c))→w'.heap[b']?=w.heap[b']?:=fun b' hb h0=>hst.keep b' hb fun q hq c=>by
  cases hq2:mget (mset mnew κ (some b0)) q with
  |none=>exact absurd hq2 hq
  |some b2=>
   obtain⟨rfl,_⟩:=hone q b2 hq2
   simp only[if_true];exact h0 c
 have hβ':β' κ.num=β k.num:=by
  rw[hst.beta κ.num (.inl hκ)];exact if_pos rfl
 have hnew: ∀bb c,β' K.num=some (bb,c)→H' bb=none∧bb<w'.heap.size∧w.heap.size≤bb:=fun bb c h0=>by
  obtain⟨h2,h3⟩:=hM'.own K bM hK bb c h0
  refine⟨h2,h3,?_⟩
  rcases hst.own K bM hK bb c h0 with h4|⟨q,hq,c0,h4⟩
  ·exact h4
  ·cases hq2:mget (mset mnew κ (some b0)) q with
   |none=>exact absurd hq2 hq
   |some b2=>
    obtain⟨rfl,_⟩:=hone q b2 hq2
    simp only[if_true]at h4
    exact absurd (hβ'.trans h4) (hM'.inj K q bM b1 hK h1 hne bb c c0 h0)
 have hsz:=hst.size
 have hnone:β s.nx.num=none:=hdom _ (q1G _) (by show _<k'.num;omega)
 have hb: ∀n,n≠s.nx.num→(if n=s.nx.num then β' K.num else β n)=β n:=fun n hn=>if_neg hn
 have hold: ∀q b2,mget s.m q=some b2→ ∀bb c,β q.num=some (bb,c)→H' bb=none∧bb<w.heap.size:=fun q b2 hq bb c h0=>by
  obtain⟨h2,h3⟩:=hM.own q b2 hq bb c h0
  refine⟨?_,h3⟩
  cases hH:H' bb with
  |none=>rfl
  |some cs0=>
   rcases hst.hnew bb (by rw[hH];simp)with h4|h4
   ·exact absurd h2 h4
   ·omega
 refine⟨u,H',fun n=>if n=s.nx.num then β' K.num else β n,rfl,⟨hst.os,hst.tape,hst.output,hsz,fun b' hb h0=>hkeep b' hb fun c=>h0 k (by rw[hk];simp) c,hst.hle,hst.hnew,hst.hon,fun n hn=>hb n (by rcases hn with h|(h:k'.num≤n)<;>omega),fun q b2 hq bb c h0=>?_⟩,hp _ _ _ _ (if_pos rfl) hsat,⟨fun q b2 hq=>?_,fun q b2 hq bb c h0=>?_,fun q q' b2 b3 hq hq' hne bb c c' h0 h1=>?_⟩⟩
 ·rw[hget]at hq
  split at hq
  ·rename_i e;subst e
   rw[if_pos rfl]at h0
   exact .inl (hnew bb c h0).2.2
  ·rw[hb _ (hq0 q (by rw[hq];simp))]at h0
   exact .inr ⟨q,by rw[hq];simp,c,h0⟩
 ·rw[hget]at hq
  split at hq
  ·rename_i e;subst e;cases hq
   have hr:=hM'.rep K bM hK
   rw[hN]at hr
   exact BY hmN (if_pos rfl) hr
  ·have hqn:=hq0 q (by rw[hq];simp)
   by_cases e:q=k
   ·subst e
    rw[hk]at hq;cases hq
    have hr1:=hM'.rep κ b1 h1
    rw[hend]at hr1
    rw[hblk]
    exact BY hm ((hb _ hqn).trans hβ'.symm) hr1
   ·have hr:=hM.rep q b2 hq
    refine Blk.rep_congr hr hst.hle (fun n hn=>hb n fun e=>?_) fun bb c h0=>hkeep bb (hM.own q b2 hq bb c h0).2 fun c1 h1=>hM.inj q k b2 b hq hk e bb c c1 h0 h1
    subst e
    rcases hn with hn|hn
    ·exact hqn hn.symm
    ·exact(CL (D:=D) b2 0).2.1 β w H q.num _ hr hn hnone
 ·rw[hget]at hq
  split at hq
  ·rename_i e;subst e
   rw[if_pos rfl]at h0
   exact⟨(hnew bb c h0).1,(hnew bb c h0).2.1⟩
  ·rw[hb _ (hq0 q (by rw[hq];simp))]at h0
   obtain⟨h2,h3⟩:=hold q b2 hq bb c h0
   exact⟨h2,q1J h3 hsz⟩
 ·rw[hget]at hq hq'
  split at hq
  ·rename_i e;subst e
   rw[if_neg hne]at hq'
   rw[if_pos rfl]at h0
   rw[hb _ (hq0 q' (by rw[hq'];simp))]at h1
   have:=(hold q' b3 hq' bb c' h1).2
   have:=(hnew bb c h0).2.2
   omega
  ·rename_i e
   rw[hb _ (hq0 q (by rw[hq];simp))]at h0
   split at hq'
   ·rename_i e2;subst e2
    rw[if_pos rfl]at h1
    have:=(hold q b2 hq bb c h0).2
    have:=(hnew bb c' h1).2.2
    omega
   ·rw[hb _ (hq0 q' (by rw[hq'];simp))]at h1
    exact hM.inj q q' b2 b3 hq hq' hne bb c c' h0 h1
theorem DA: ∀{l:List V},l.all zY=true→ ∀n,jh n (flat D l)=false
 |[],_,n=>rfl
 |x::r,h,n=>by
  simp only[List.all_cons,q0Q]at h
  have e:flat D (x::r)=x.cells D++flat D r:=by simp[flat]
  rw[e,AM,DA h.2 n,Bool.or_false]
  have h1:=h.1
  cases x<;>first|(simp[zY]at h1;done)|rfl
theorem NK{l:List V}{es:Nat}(h:l.all zY=true)(n:Nat):(groB es (flat D l)).men n=false:=by
 have:=DA (D:=D) h n
 rcases Fo es (flat D l)with e|e<;>rw[e]<;>exact this
theorem O4{e:ME}{k k':Key}{β β':Bm}{H:Heap}{u:Value}(h:β' k'.num=β k.num)(hs:(qe D (meA e k)).sat β H u):(qe D (meA e k')).sat β' H u:=by
 unfold meA at hs⊢
 cases hg:e.g with
 |false=>
  rw[hg]at hs
  obtain⟨b,c,h1,h2⟩:=hs
  exact⟨b,c,h.trans h1,h2⟩
 |true=>
  rw[hg]at hs
  obtain⟨b,c,h1,h2,h3⟩:=hs
  exact⟨b,c,h.trans h1,h2,h3⟩
theorem G6: ∀(l:List V)(us:List Value)(β β':Bm)(H:Heap),l.all zZ=true→AVs β H (l.map (qe D)) us→AVs β' H (l.map (qe D)) us
 |[],[],_,_,_,_,_=>trivial
 |[],_::_,_,_,_,_,h=>h.elim
 |_::_,[],_,_,_,_,h=>h.elim
 |x::l,u::us,β,β',H,ha,⟨h1,h2⟩=>by
  simp only[List.all_cons,q0Q]at ha
  exact⟨HU ha.1 _ _ _ _ h1,G6 l us β β' H ha.2 h2⟩
theorem D0(e:ME):(meB e).blk D= @Bool.rec (fun _=>Blk) (.rigid (flat D e.l)) (groB e.es (flat D e.l)) e.g:=by
 have e1:Sq.toL V.und (Sq.pushL .e 0 e.l) 0 e.l.length=e.l:=wt _ _
 unfold meB
 cases e.g with
 |false=>show Blk.rigid (flat D (Sq.toL .und (Sq.pushL .e 0 e.l) 0 e.l.length))=_;rw[e1]
 |true=>show groB e.es (flat D (Sq.toL .und (Sq.pushL .e 0 e.l) 0 e.l.length))=_;rw[e1]
theorem Ns{α:Type}{L:List (List α)}: ∀{h:Nat}{e:α},e∈bkt L h→ ∃B∈L,e∈B:=by
 induction L with
 |nil=>intro h e he;cases he
 |cons B r ih=>
  intro h e he
  cases h with
  |zero=>exact⟨B,q1k,he⟩
  |succ h=>
   obtain⟨B',h1,h2⟩:=ih (h:=h) he
   exact⟨B',q1j _ h1,h2⟩
def Kf(D:List Int)(κ:Key)(e:ME)(v0:V)(s1:S):Prop:=match e.w with
 |[]=>v0=e.v∧wC e.v=true
 |_::_=> ∃K bM,v0= .tu [e.v,meA e.res K,.nn .i64 0]∧mget s1.m K=some bM∧K≠κ∧bM.blk D=(meB e.res).blk D∧vG e.v=true∧e.w.all zY=true∧(meB e.res).ok
theorem VP{f:FuncId}{L:List (List ME)}{κ nx:Key}(hκ:κ.num<nx.num)
  (hc: ∀B∈L,∀e∈B,(∃s1 b1 v0,CallOk D P f (meA e κ::e.r) ⟨mset mnew κ (some (meB e)),nx,0,[]⟩ v0 s1∧mget s1.m κ=some b1∧b1.blk D=(meB e).blk D∧Kf D κ e v0 s1)∧e.l.all zY=true∧e.r.all zZ=true):qw D P f (qx (.memoS L)):=by
 intro vs s v s' hv hvs hsk
 have key: ∀(g:Bool)(k:Key)(lo n c es N:Nat)(q:Sq V)(b:KB)(rest:List V)(B:List ME),(∀e∈B,∃B'∈L,e∈B')→mget s.m k=some b→b= @Bool.rec (fun _=>KB) (.arr es N q) (.gro es N q) g→
   Cg g es lo n c (Sq.toL .und q 0 N) rest s B= .ok v s'→CallOk D P f (@Bool.rec (fun _=>V) (.sl k lo n c es) (.gs k lo n es) g::rest) s v s':=by
  intro g k lo n c es N q b rest B hB hk hb
  induction B with
  |nil=>intro h;cases h
  |cons e r ih=>
   intro h
   have h: @Bool.rec (fun _=>RO) (Cg g es lo n c (Sq.toL .und q 0 N) rest s r) (newR e s) (bqA e.r rest&&((e.g==g)&&(Nat.beq e.es es&&(Nat.beq e.lo lo&&(Nat.beq e.n n&&((e.g||Nat.beq e.c c)&&bqA e.l (Sq.toL .und q 0 N)))))))= .ok v s':=h
   cases hq:(bqA e.r rest&&((e.g==g)&&(Nat.beq e.es es&&(Nat.beq e.lo lo&&(Nat.beq e.n n&&((e.g||Nat.beq e.c c)&&bqA e.l (Sq.toL .und q 0 N)))))))with
   |false=>rw[hq]at h;exact ih (fun e he=>hB e (q1j _ he)) h
   |true=>
    rw[hq]at h
    have h2:newR e s= .ok v s':=h
    simp only[q0Q,Bool.or_eq_true,beq_iff_eq]at hq
    obtain⟨q1,q2,q3,q5,q6,q7,q4⟩:=hq
    have q1:=CN q1
    have q3:=q1B q3
    have q5:=q1B q5
    have q6:=q1B q6
    have q4:=CN q4
    obtain⟨B',hB',he⟩:=hB e q1k
    obtain⟨⟨s1,b1,v0,c1,c2,c3,p3⟩,p1,p2⟩:=hc B' hB' e he
    have hargs:(@Bool.rec (fun _=>V) (.sl k lo n c es) (.gs k lo n es) g)=meA e k:=by
     unfold meA
     cases g with
     |false=>
      rw[q2]at q7⊢
      have q7:e.c=c:=by
       rcases q7 with q7|q7
       ·cases q7
       ·exact q1B q7
      rw[q3,q5,q6,q7]
     |true=>rw[q2,q3,q5,q6]
    have hblk:b.blk D=(meB e).blk D:=by
     rw[hb,D0,q2,q3,q4]
     cases g<;>rfl
    rw[hargs,←q1]
    have hmB: ∀m,((meB e).blk D).men m=false:=fun m=>by
     rw[D0]
     cases e.g with
     |false=>exact DA p1 m
     |true=>exact NK p1 m
    have hav: ∀β β' H us,β' κ.num=β k.num→AVs β H ((meA e k::e.r).map (qe D)) us→AVs β' H ((meA e κ::e.r).map (qe D)) us:=fun β β' H us hβ h=>by
     match us,h with
     |[],h=>exact h.elim
     |u::us,⟨h1,h2⟩=>exact⟨O4 hβ h1,G6 _ _ _ _ _ p2 h2⟩
    unfold Kf at p3
    unfold newR at h2
    cases hw:e.w with
    |nil=>
     rw[hw]at p3 h2
     obtain⟨rfl,p3⟩:=p3
     injection h2 with g1 g2
     subst g1;subst g2
     exact Pg (k:=k) (κ:=κ) c1 hκ hk hblk c2 c3 hmB hsk (fun β β' H u h=>HW p3 _ _ _ _ _ h) hav
    |cons a0 r0=>
     rw[hw]at p3 h2
     obtain⟨K,bM,rfl,d1,d2,d3,d4,d5,d6⟩:=p3
     obtain⟨m,nx0,dn,sc⟩:=s
     have h2:putK m nx0 dn sc (.tu [e.v,meA e.res nx0,.nn .i64 0]) (meB e.res)= .ok v s':=h2
     unfold putK at h2
     split at h2
     ·rename_i k' hk'
      injection h2 with g1 g2
      subst g1;subst g2
      refine QC (k:=k) (κ:=κ) (s:=⟨m,nx0,dn,sc⟩) c1 hκ hk hblk c2 c3 hmB d1 d2 d3 (fun n=>?_) d6 hk' hsk (fun x hx=>?_) (by simp) (fun β β' H u hβ h=>?_) hav
      ·rw[D0]
       rw[←hw]at d5
       cases e.res.g with
       |false=>exact DA d5 n
       |true=>exact NK d5 n
      ·simp only[q1i,q1q,or_false]at hx
       rcases hx with rfl|rfl|rfl
       ·cases he:e.v<;>rw[he]at d4<;>first|(simp[vG]at d4;done)|skip
        all_goals first|trivial|(have:=c1.ok (e.v) (by simp);rw[he]at this;exact this)
       ·unfold meA;cases e.res.g<;>trivial
       ·trivial
      ·obtain⟨arr,g1,g2⟩:=(show∃arr:Array Value,u= .tuple arr∧CmpSats β H ([e.v,meA e.res K,.nn .i64 0].map (V.cmp D)) arr.toList from h)
       refine⟨arr,g1,?_⟩
       match arr.toList,g2 with
       |[],g2=>exact g2.elim
       |[_],g2=>exact g2.2.elim
       |[_,_],g2=>exact g2.2.2.elim
       |_::_::_::_::_,g2=>exact g2.2.2.2.elim
       |[x,y,z],⟨g3,g4,g5,_⟩=>
        refine⟨?_,?_,g5,trivial⟩
        ·cases he:e.v<;>rw[he]at d4 g3<;>first|(simp[vG]at d4;done)|exact g3
        ·have hA: ∀K0 β0,(qe D (meA e.res K0)).sat β0 H y=((meA e.res K0).cmp D).sat β0 H y:=fun K0 β0=>by unfold meA;cases e.res.g<;>rfl
         have:=O4 (D:=D) (e:=e.res) (k:=K) (k':=nx0) (β:=β) (β':=β') (H:=H) (u:=y) hβ (by rw[hA];exact g4)
         rw[hA]at this;exact this
     ·cases h2
 have hv:(match(generalizing:=false) vs with
  | .sl k lo n c w::rest=> @S.rec (fun _=>RO) (fun m nx dn sc=>match(generalizing:=false) mget m k with
   |some (.arr es N q)=> @Bool.rec (fun _=>RO) (.no [42]) (Cg false es lo n c (Sq.toL .und q 0 N) rest (S.mk m nx dn sc) (bkt L (hsh rest))) (Nat.beq w es)
   |_=> .no [43]) s
  | .gs k lo n w::rest=> @S.rec (fun _=>RO) (fun m nx dn sc=>match(generalizing:=false) mget m k with
   |some (.gro es N q)=> @Bool.rec (fun _=>RO) (.no [42]) (Cg true es lo n 0 (Sq.toL .und q 0 N) rest (S.mk m nx dn sc) (bkt L (hsh rest))) (Nat.beq w es)
   |_=> .no [43]) s
  |_=> .no [44])=RO.ok v s':=hv
 split at hv
 ·rename_i k lo n c w rest _
  obtain⟨m,nx,dn,sc⟩:=s
  have hv:(match(generalizing:=false) mget m k with
   |some (.arr es N q)=> @Bool.rec (fun _=>RO) (.no [42]) (Cg false es lo n c (Sq.toL .und q 0 N) rest (S.mk m nx dn sc) (bkt L (hsh rest))) (Nat.beq w es)
   |_=> .no [43])=RO.ok v s':=hv
  split at hv
  ·rename_i es N q hk
   cases hw:Nat.beq w es with
   |false=>rw[hw]at hv;cases hv
   |true=>
    rw[hw]at hv
    have hw:=q1B hw
    subst hw
    exact key false k lo n c w N q _ rest _ (fun e he=>Ns he) hk rfl hv
  ·cases hv
 ·rename_i k lo n w rest _
  obtain⟨m,nx,dn,sc⟩:=s
  have hv:(match(generalizing:=false) mget m k with
   |some (.gro es N q)=> @Bool.rec (fun _=>RO) (.no [42]) (Cg true es lo n 0 (Sq.toL .und q 0 N) rest (S.mk m nx dn sc) (bkt L (hsh rest))) (Nat.beq w es)
   |_=> .no [43])=RO.ok v s':=hv
  split at hv
  ·rename_i es N q hk
   cases hw:Nat.beq w es with
   |false=>rw[hw]at hv;cases hv
   |true=>
    rw[hw]at hv
    have hw:=q1B hw
    subst hw
    exact key true k lo n 0 w N q _ rest _ (fun e he=>Ns he) hk rfl hv
  ·cases hv
 ·cases hv
end
end
noncomputable section
def stE:S:=⟨mnew,⟨.d0,.d0,.d0,.d0⟩,0,[]⟩
def okB(r:RO):Bool:= @RO.rec (fun _=>Bool) (fun v _=>match v with| .bb b=>b|_=>false) (fun _=>false) (fun _=>false) r
theorem LX{r:RO}(h:okB r=true): ∃s',r= .ok (.bb true) s':=by
 cases r with
 |no t=>cases h
 |need n=>cases h
 |ok v s'=>
  cases v with
  |bb b=>
   have h:b=true:=h
   subst h;exact⟨s',rfl⟩
  |_=>cases h
def locL:List Nat:=[0,0,1,195713069214720,388958814993152,56,4530200926748608,56,79189476888028788142351810560,2016,4951755360409348779552996864,34359721952,9004992161517568,74436767763955288845683660821894758400,154723025074621157220613888,1293003612192616834531785984569344,184,274877636480,268434432,16256,36893488077625815040,1099259934720,8587232,2096608,16320,8160,14456,18014389852438400,120,2192330507923301632473003298344499551702192615424,4193760,62,33552256,2031360,15840,15808,1057810092162766105182208,8184,9223371757681360896,4229463040,1920,524096,32760,1073741760,61574798359552,37778927357158510000640,3968,536867840,2097120,1048288,480,2305561517056586752,3808,18889465931478580723968,4088,274862170624,24,33949664,32720,32624,35960,76552397773627888,29710791214131716529417326080,992,32624,1073676256,32736,8795958804352,240,65504,68652350464,3782725072640,4611686018419407872,24,232,232,15808,18446744073640343552,33422336,8796093020160,56,137438951936,1048384,147573952589659373056,952,33847365689392896,18014123493564160,1097363061696,7616,2096768,1133358659614641839128576,288230375610626048,2016,504,992,18446744039079344128,4088,548707761152,288226462429863936,65408,16911169536,68719377408,224,224,316912650057025825173562950720,232,8792066226176,66059008,268311808,1016,16504,2251776191101440,16105979648,17112776416,3931008,1016,2147483104,1073740672,2143281024,17592154095360,480,56,2269133697724664,310408241687755327256624128,270328,480,120,1776,56,1016,196352,73786975195326574336,268311808,8184,480,4032,66846528,2199014862784,8323568,11692007523460922414819940996569702616912153281536,1125625020480512,1073447904,50301888,17557808988096,590295810357663496192,952,1125865547091968,277277621789195702016,5708903653220914651203579310974726213113741312,4072,2,1008,1246200,573664,288228314551672832,1008,324516387262324959420134352977920,536855024,1008,33553472,35167160752128,73786948841474351104,134214624,16775168,2087067392,3064991081651285964515747586381944273465083587961815040,224,2096640,8380864,525304,134156224,67092112,33029984,2016,2101216,41538216409535740860339456476967040,68215103488,457792,16504,1048440,2287828026580244096,16776128,8587232,56,2027520,992,480,4080,457792,4177648,562932772502592,61606743505920,262136,36028659546452096,8796092956160,1099511611136,3936,992,36028762650832640,2096608,2032112,4000,128992,2037032151679167088875178089731766329874812294602794236573305126006473333637623210246668288,288230358956105216,0,18014394183020544,1016,131032,265336,17376,4397983565312,549753920896,536348608,36028797018045952,240,240,4080,1125891727947776,4088,2596148429267413543750308518952960,130816,549957930104,2251799781981696,4294901280,2305841085068343296,1048384,2097120,8658620643072,16320,268434688,262128,134152096,524008,2096608,73786413310256577280,8380864,457792,35183302532032,261952,17591915503616,8796092956160,56,2199023132160,4064,67552,39614080961984263615267404800,58722272,864128105490430976,562949937491968,1048320,8,8160,233408,992,549752135424,134217152,268434928,4951760157141521098539376640,3808,0,1008,85070591730234539201157273851742650368,2417851603200419438261248,281474917064640,524256,16320,16368,16769472,524096,268434928,0,0,0,0,0,0,0,0,0,0,0,0,0,0,0,0,0,0]
def locT(f:FuncId):Nat:=locL.getD f 0
def runE:Bool:=okB ((wg Go.Proofs.Tryz.prog (prims tbA) locT 60).call 6 (j9 []).c0 0 stE)
theorem Df(D:List Int):SOK D stE:=by
 refine⟨fun k b h=>?_,fun k h=>?_,fun j p h=>?_⟩
 ·rw[show stE.m=mnew from rfl,vO]at h;cases h
 ·rw[show stE.m=mnew from rfl,vO]at h;exact absurd rfl h
 ·have h:([]:List (Nat×Nat))[j]?=some p:=h
  simp at h
def okV(v:V)(r:RO):Bool:= @RO.rec (fun _=>Bool) (fun u _=>bqV u v) (fun _=>false) (fun _=>false) r
def PD(f:FuncId)(L:List (List V×V)):Bool:= @List.rec (List V×V) (fun _=>Bool) true (fun p _ ih=> @Bool.rec (fun _=>Bool) false ih (okV p.2 ((wg Go.Proofs.Tryz.prog (prims tbA) locT 60).call f (j9 p.1).c0 p.1.length stE)&&(p.1.all zZ&&wC p.2&&p.1.all argB))) L
def k0:Key:=⟨.d0,.d0,.d0,.d0⟩
def k1:Key:=⟨.d0,.d0,.d0,.d1⟩
def stM(e:ME):S:=⟨mset mnew k0 (some (meB e)),k1,0,[]⟩
def I9(e:ME)(b:Option KB):Bool:=match b with
 |some (.arr es N q)=> @Bool.rec (fun _=>Bool) (Nat.beq es e.es&&bqA e.l (Sq.toL .und q 0 N)) false e.g
 |some (.gro es N q)=> @Bool.rec (fun _=>Bool) false (Nat.beq es e.es&&bqA e.l (Sq.toL .und q 0 N)) e.g
 |_=>false
def qqB(v:V):Bool:=match v with| .qq _ _ _=>arg1 v|_=>false
def newB(e:ME)(K:Key)(s:S):Bool:=!(Nat.beq K.num k0.num)&&I9 e.res (mget s.m K)
def okU(e:ME)(u:V)(s:S):Bool:= @List.rec V (fun _=>Bool) (bqV u e.v&&wC e.v) (fun _ _ _=>match u with
 | .tu [a,.sl K lo n c w,.nn .i64 z]=>(bqV a e.v&&vG e.v)&&((Nat.beq lo 0&&(Nat.beq n e.w.length&&Nat.beq c e.w.length))&&((Nat.beq w 3&&(Nat.beq z 0&&!e.o))&&(e.w.all qqB&&newB e K s)))
 | .tu [a,.gs K lo n w,.nn .i64 z]=>(bqV a e.v&&vG e.v)&&((Nat.beq lo 0&&Nat.beq n e.w.length)&&((Nat.beq w 3&&(Nat.beq z 0&&e.o))&&(e.w.all qqB&&newB e K s)))
 |_=>false) e.w
def okM(e:ME)(r:RO):Bool:= @RO.rec (fun _=>Bool) (fun u s=>okU e u s&&I9 e (mget s.m k0)) (fun _=>false) (fun _=>false) r
def Ac(f:FuncId)(L:List (List ME)):Bool:=L.all fun B=>B.all fun e=>okM e ((wg Go.Proofs.Tryz.prog (prims tbA) locT 60).call f (j9 (meA e k0::e.r)).c0 (meA e k0::e.r).length (stM e))&&(e.l.all qqB&&(Nat.beq e.es 3&&(e.r.all zZ&&e.r.all argB)))
def kn0:List V:=[.qq false 0 1,.qq false 0 1,.qq false 0 1,.qq false 1 2,.qq false 1 1,.qq false 1 1,.qq false 1 1]
def kn1:List V:=[.qq false 0 1,.qq false 0 1,.qq false 0 1,.qq false 1 1,.qq false 1 1,.qq false 1 1]
def mms0:List (List ME):=[[],[],[⟨false,3,0,6,6,kn1,[.nn .i64 2,.qq false 1 2],.nn .i64 0,[.qq false 1 4,.qq false 1 2,.qq false 1 4],false⟩,⟨true,3,0,6,0,kn1,[.nn .i64 2,.qq false 1 2],.nn .i64 0,[.qq false 1 4,.qq false 1 2,.qq false 1 4],false⟩,⟨true,3,0,7,0,kn0,[.nn .i64 2,.qq false 1 2],.nn .i64 1,[.qq false 1 2,.qq false 1 2,.qq false 0 1],false⟩],[],[],[],[],[⟨false,3,0,6,6,kn1,[.nn .i64 2,.qq false 0 1],.nn .i64 0,[.qq false 1 1,.qq false 0 1,.qq false 0 1],false⟩,⟨true,3,0,6,0,kn1,[.nn .i64 2,.qq false 0 1],.nn .i64 0,[.qq false 1 1,.qq false 0 1,.qq false 0 1],false⟩,⟨true,3,0,7,0,kn0,[.nn .i64 2,.qq false 0 1],.nn .i64 0,[.qq false 1 1,.qq false 0 1,.qq false 0 1],false⟩,⟨true,3,0,7,0,kn0,[.nn .i64 2,.qq false 3 4],.nn .i64 1,[.qq false 1 8,.qq false 5 8,.qq false 1 4],false⟩],[],[],[],[],[⟨false,3,0,6,6,kn1,[.nn .i64 2,.qq false 1 1],.nn .i64 0,[.qq false 0 1,.qq false 0 1,.qq false 1 1],false⟩,⟨true,3,0,6,0,kn1,[.nn .i64 2,.qq false 1 1],.nn .i64 0,[.qq false 0 1,.qq false 0 1,.qq false 1 1],false⟩,⟨true,3,0,7,0,kn0,[.nn .i64 2,.qq false 1 1],.nn .i64 1,[.qq false 0 1,.qq false 0 1,.qq false 1 1],false⟩,⟨true,3,0,7,0,kn0,[.nn .i64 2,.qq false 1 4],.nn .i64 0,[.qq false 1 4,.qq false 5 8,.qq false 1 8],false⟩]]
def mms1:List (List ME):=[[],[],[⟨true,3,0,6,0,kn1,[.nn .i64 2,.qq false 1 2],.nn .i64 0,[.qq false 1 4,.qq false 1 2,.qq false 1 4],true⟩,⟨true,3,0,7,0,kn0,[.nn .i64 2,.qq false 1 2],.nn .i64 1,[.qq false 1 2,.qq false 1 2,.qq false 0 1],true⟩],[],[],[],[],[⟨true,3,0,6,0,kn1,[.nn .i64 2,.qq false 0 1],.nn .i64 0,[.qq false 1 1,.qq false 0 1,.qq false 0 1],true⟩,⟨true,3,0,7,0,kn0,[.nn .i64 2,.qq false 0 1],.nn .i64 0,[.qq false 1 1,.qq false 0 1,.qq false 0 1],true⟩,⟨true,3,0,7,0,kn0,[.nn .i64 2,.qq false 3 4],.nn .i64 1,[.qq false 1 8,.qq false 5 8,.qq false 1 4],true⟩],[],[],[],[],[⟨true,3,0,6,0,kn1,[.nn .i64 2,.qq false 1 1],.nn .i64 0,[.qq false 0 1,.qq false 0 1,.qq false 1 1],true⟩,⟨true,3,0,7,0,kn0,[.nn .i64 2,.qq false 1 1],.nn .i64 1,[.qq false 0 1,.qq false 0 1,.qq false 1 1],true⟩,⟨true,3,0,7,0,kn0,[.nn .i64 2,.qq false 1 4],.nn .i64 0,[.qq false 1 4,.qq false 5 8,.qq false 1 8],true⟩]]
def mms2:List (List ME):=[[],[],[⟨false,3,0,6,6,kn1,[.nn .i64 2],.nn .i64 0,[],false⟩,⟨true,3,0,6,0,kn1,[.nn .i64 2],.nn .i64 0,[],false⟩,⟨true,3,0,7,0,kn0,[.nn .i64 2],.nn .i64 0,[],false⟩,⟨true,3,1,5,0,kn1,[.nn .i64 2],.nn .i64 5,[],false⟩]]
def mms3:List (List ME):=[[⟨true,3,0,7,0,kn0,[.qq false 1 2],.nn .i64 1,[],false⟩],[⟨false,3,0,6,6,kn1,[.qq false 0 1],.nn .i64 3,[],false⟩,⟨true,3,0,6,0,kn1,[.qq false 0 1],.nn .i64 3,[],false⟩,⟨true,3,0,7,0,kn0,[.qq false 0 1],.nn .i64 3,[],false⟩],[⟨false,3,0,6,6,kn1,[.qq false 1 1],.nn .i64 3,[],false⟩,⟨true,3,0,6,0,kn1,[.qq false 1 1],.nn .i64 3,[],false⟩,⟨true,3,0,7,0,kn0,[.qq false 1 1],.nn .i64 3,[],false⟩]]
def mms4:List (List ME):=[[],[],[⟨false,3,0,6,6,kn1,[.nn .i64 2,.qq false 1 2],.tu [.nn .i64 2,.nn .i64 0],[],false⟩,⟨true,3,0,6,0,kn1,[.nn .i64 2,.qq false 1 2],.tu [.nn .i64 2,.nn .i64 0],[],false⟩,⟨true,3,0,7,0,kn0,[.nn .i64 2,.qq false 1 2],.tu [.nn .i64 3,.nn .i64 0],[],false⟩],[],[],[],[],[⟨false,3,0,6,6,kn1,[.nn .i64 2,.qq false 0 1],.tu [.nn .i64 2,.nn .i64 0],[],false⟩,⟨true,3,0,6,0,kn1,[.nn .i64 2,.qq false 0 1],.tu [.nn .i64 2,.nn .i64 0],[],false⟩,⟨true,3,0,7,0,kn0,[.nn .i64 2,.qq false 0 1],.tu [.nn .i64 2,.nn .i64 0],[],false⟩,⟨true,3,0,7,0,kn0,[.nn .i64 2,.qq false 3 4],.tu [.nn .i64 3,.nn .i64 0],[],false⟩],[],[],[],[],[⟨false,3,0,6,6,kn1,[.nn .i64 2,.qq false 1 1],.tu [.nn .i64 2,.nn .i64 0],[],false⟩,⟨true,3,0,6,0,kn1,[.nn .i64 2,.qq false 1 1],.tu [.nn .i64 2,.nn .i64 0],[],false⟩,⟨true,3,0,7,0,kn0,[.nn .i64 2,.qq false 1 1],.tu [.nn .i64 3,.nn .i64 0],[],false⟩,⟨true,3,0,7,0,kn0,[.nn .i64 2,.qq false 1 4],.tu [.nn .i64 2,.nn .i64 0],[],false⟩]]
def mms5:List (List ME):=[[],[],[⟨true,3,0,6,0,kn1,[.nn .i64 2,.qq false 1 2],.tu [.nn .i64 2,.nn .i64 0],[],false⟩,⟨true,3,0,7,0,kn0,[.nn .i64 2,.qq false 1 2],.tu [.nn .i64 3,.nn .i64 0],[],false⟩],[],[],[],[],[⟨true,3,0,6,0,kn1,[.nn .i64 2,.qq false 0 1],.tu [.nn .i64 2,.nn .i64 0],[],false⟩,⟨true,3,0,7,0,kn0,[.nn .i64 2,.qq false 0 1],.tu [.nn .i64 2,.nn .i64 0],[],false⟩,⟨true,3,0,7,0,kn0,[.nn .i64 2,.qq false 3 4],.tu [.nn .i64 3,.nn .i64 0],[],false⟩],[],[],[],[],[⟨true,3,0,6,0,kn1,[.nn .i64 2,.qq false 1 1],.tu [.nn .i64 2,.nn .i64 0],[],false⟩,⟨true,3,0,7,0,kn0,[.nn .i64 2,.qq false 1 1],.tu [.nn .i64 3,.nn .i64 0],[],false⟩,⟨true,3,0,7,0,kn0,[.nn .i64 2,.qq false 1 4],.tu [.nn .i64 2,.nn .i64 0],[],false⟩]]
def mms6:List (List ME):=[[],[],[⟨true,3,0,6,0,kn1,[.nn .i64 2],.nn .i64 0,[],false⟩,⟨true,3,0,7,0,kn0,[.nn .i64 2],.nn .i64 0,[],false⟩,⟨true,3,1,5,0,kn1,[.nn .i64 2],.nn .i64 5,[],false⟩]]
def mms7:List (List ME):=[[⟨true,3,0,6,0,kn1,[.qq false 1 2],.nn .i64 0,[],false⟩,⟨true,3,0,7,0,kn0,[.qq false 1 2],.nn .i64 1,[],false⟩],[⟨true,3,0,6,0,kn1,[.qq false 0 1],.nn .i64 3,[],false⟩,⟨true,3,0,7,0,kn0,[.qq false 0 1],.nn .i64 3,[],false⟩],[⟨true,3,0,6,0,kn1,[.qq false 1 1],.nn .i64 3,[],false⟩,⟨true,3,0,7,0,kn0,[.qq false 1 1],.nn .i64 3,[],false⟩]]
def mmo0:List (List V×V):=[([.qq false 0 1],.st [48]),([.qq false 1 10],.st [49,47,49,48]),([.qq false 1 12],.st [49,47,49,50]),([.qq false 1 1],.st [49]),([.qq false 1 2],.st [49,47,50]),([.qq false 1 3],.st [49,47,51]),([.qq false 1 4],.st [49,47,52]),([.qq false 1 5],.st [49,47,53]),([.qq false 1 8],.st [49,47,56]),([.qq false 11 10],.st [49,49,47,49,48]),([.qq false 11 15],.st [49,49,47,49,53]),([.qq false 11 24],.st [49,49,47,50,52]),([.qq false 11 8],.st [49,49,47,56]),([.qq false 12 19],.st [49,50,47,49,57]),([.qq false 13 10],.st [49,51,47,49,48]),([.qq false 14 15],.st [49,52,47,49,53]),([.qq false 17 15],.st [49,55,47,49,53]),([.qq false 17 24],.st [49,55,47,50,52]),([.qq false 2 15],.st [50,47,49,53]),([.qq false 2 1],.st [50]),([.qq false 2 5],.st [50,47,53]),([.qq false 22 19],.st [50,50,47,49,57]),([.qq false 3 10],.st [51,47,49,48]),([.qq false 3 16],.st [51,47,49,54]),([.qq false 3 19],.st [51,47,49,57]),([.qq false 3 1],.st [51]),([.qq false 3 2],.st [51,47,50]),([.qq false 3 32],.st [51,47,51,50]),([.qq false 3 4],.st [51,47,52]),([.qq false 3 5],.st [51,47,53]),([.qq false 3 8],.st [51,47,56]),([.qq false 4 1],.st [52]),([.qq false 4 5],.st [52,47,53]),([.qq false 5 24],.st [53,47,50,52]),([.qq false 5 4],.st [53,47,52]),([.qq false 5 6],.st [53,47,54]),([.qq false 5 8],.st [53,47,56]),([.qq false 54 19],.st [53,52,47,49,57]),([.qq false 6 19],.st [54,47,49,57]),([.qq false 6 5],.st [54,47,53]),([.qq false 7 10],.st [55,47,49,48]),([.qq false 7 12],.st [55,47,49,50]),([.qq false 7 5],.st [55,47,53]),([.qq false 7 8],.st [55,47,56]),([.qq false 8 15],.st [56,47,49,53]),([.qq false 8 5],.st [56,47,53]),([.qq false 9 10],.st [57,47,49,48]),([.qq false 9 19],.st [57,47,49,57]),([.qq false 9 32],.st [57,47,51,50]),([.qq false 9 5],.st [57,47,53]),([.qq false 9 8],.st [57,47,56]),([.qq true 1 10],.st [45,49,47,49,48]),([.qq true 1 15],.st [45,49,47,49,53]),([.qq true 1 24],.st [45,49,47,50,52]),([.qq true 1 2],.st [45,49,47,50]),([.qq true 1 4],.st [45,49,47,52]),([.qq true 1 5],.st [45,49,47,53]),([.qq true 1 6],.st [45,49,47,54]),([.qq true 1 8],.st [45,49,47,56]),([.qq true 12 19],.st [45,49,50,47,49,57]),([.qq true 2 5],.st [45,50,47,53]),([.qq true 3 10],.st [45,51,47,49,48]),([.qq true 3 16],.st [45,51,47,49,54]),([.qq true 3 19],.st [45,51,47,49,57]),([.qq true 3 32],.st [45,51,47,51,50]),([.qq true 3 5],.st [45,51,47,53]),([.qq true 3 8],.st [45,51,47,56]),([.qq true 4 15],.st [45,52,47,49,53]),([.qq true 4 5],.st [45,52,47,53]),([.qq true 6 19],.st [45,54,47,49,57]),([.qq true 7 15],.st [45,55,47,49,53]),([.qq true 9 19],.st [45,57,47,49,57]),([.qq true 9 32],.st [45,57,47,51,50])]
def tbM:List (Nat×Pt):=(220,.memoS mms0)::(240,.memoS mms1)::(123,.memoS mms2)::(184,.memoS mms3)::(248,.memoS mms4)::(191,.memoS mms5)::(62,.memoS mms6)::(114,.memoS mms7)::(189,.memo mmo0)::tbA
def tbF:List (Nat×Pt):=(5,.light true)::(7,.roll)::(11,.next)::(6,.tru)::tbM
def stC(l:List (Nat×Nat)):S:=⟨mnew,⟨.d0,.d0,.d0,.d0⟩,0,l⟩
def runL(l:List (Nat×Nat)):Bool:=okB ((wg Go.Proofs.Tryz.prog (prims tbF) locT 60).call 3 (j9 [.dl]).c0 1 (stC l))
def tbG:List (Nat×Pt):=[(5,.light false),(6,.tru)]
def runG:Bool:=okB ((wg Go.Proofs.Tryz.prog (prims tbG) locT 60).call 3 (j9 [.dl]).c0 1 (stC []))
end
noncomputable section
def st8(t n:Nat):List (Nat×Nat):= @Bool.rec (fun _=>List (Nat×Nat)) [(6,Nat.sub t (@Bool.rec (fun _=>Nat) 2 0 (Nat.beq t 0))),(2,n)] [(6,1),(3,Nat.sub t 1),(2,n)] (Nat.blt 0 t&&Nat.blt t 4)
def sv(v n:Nat):List (Nat×Nat):= @Bool.rec (fun _=>List (Nat×Nat)) ((2,1)::(2,Nat.div (Nat.sub v 1) 8)::st8 (Nat.mod (Nat.sub v 1) 8) n) [(2,0),(2,n)] (Nat.beq v 0)
def scr(x:Nat):List (Nat×Nat):=(4,Nat.mod (Nat.div x 4) 4)::(2,Nat.mod (Nat.div x 2) 2)::(2,Nat.mod x 2)::sv (Nat.div x 32) (Nat.mod (Nat.div x 16) 2)
def andR(a b:Bool):Bool:= @Bool.rec (fun _=>Bool) false b a
def rg(n:Nat):Nat→Bool:= @Nat.rec (fun _=>Nat→Bool) (fun _=>true) (fun _ ih a=>andR (runL (scr a)) (ih (Nat.succ a))) n
end
end Go.Proofs.YtjemkhmahjnfaaaGreat.Sx.Kx
