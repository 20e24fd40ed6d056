/-
Own laws, part 5. No condition.
-/
import Derived.Test.YtknbiadjbdemdaaGreatS4
namespace Go.Proofs.YtknbiadjbdemdaaGreat.Sx
open Go Go.Proofs
set_option linter.unusedVariables false
set_option linter.unusedSimpArgs false
set_option maxRecDepth 20000
set_option maxHeartbeats 4000000
def zT(K:Nat)(k:Option Nat)(l:List Nat):Bool:=!jD K l&&(match k with|some k=>!jD k l|none=>true)
theorem wL{K:Nat}{k:Option Nat}{l:List Nat}(h:zT K k l=true):K∉l/\ ∀k0,k=some k0->k0∉l:=by
 unfold zT at h;simp only[q4R,q4T]at h;refine⟨λhm=>by rw[vU.2 hm]at h;exact absurd h.1 (by simp),λk0 e hm=>?_⟩;subst e;have:=h.2;simp only[q4T]at this;rw[vU.2 hm]at this;cases this
def DQ(st:WSt)(kb K:Nat)(k:Option Nat):Bool:=
 Nat.blt K 100000&&v5 st.m&&v5 st.L&&!Nat.beq kb K&&!(match k with|some k=>Nat.beq kb k|none=>false)&&(look st.rL kb).isNone&&
  st.rm.all (λp=>zT K k p.2.ids)&&st.rL.all (λp=>renL K k p)
def zC(st:WSt)(kb K:Nat)(k:Option Nat)(cs:List WA)(B:WB):WSt:=
 ⟨st.rm,st.m.filter (λp=>zT K k p.2.ids),st.rL,(K,B)::(kb,.rig cs)::st.L.filter (λp=>!Nat.beq p.1 kb&&renL K k p)⟩
def renB(kb i K:Nat)(t:Ty)(b:Bd)(st:WSt):Option WSt:=
 match look st.L kb with
 |some (.rig l)=>match l.drop i with
  | .gs k n w nb::post=>bif Nat.beq k K then some st else(match look st.L k with
   |some (.gro t' b' xs)=>bif DQ st kb K (some k)&&(zT K (some k) (WAs.ids (l.take i))&&zT K (some k) (WAs.ids post))then some (zC st kb K (some k) (l.take i++ .gs K n w nb::post) (.gro t' b' xs))else none
   |_=>none)
  |a::post=>bif vG a&&(DQ st kb K none&&(zT K none (WAs.ids (l.take i))&&zT K none (WAs.ids post)))then some (zC st kb K none (l.take i++ .gs K 0 t.w 0::post) (.gro t b []))else none
  |[]=>none
 |_=>none
theorem Hw{β β':Bm}{H:Heap}{x x':Atom}{b:List Atom}(hb: ∀q,jq q b=true->β' q=β q)(hx: ∀u,x.sat β H u->x'.sat β' H u):
  ∀{a:List Atom},(∀q,jq q a=true->β' q=β q)-> ∀{vs:List Value},Sats β H (a++x::b) vs->Sats β' H (a++x'::b) vs
 |[],_,_::_,h=>⟨hx _ h.1,Sats.congr (Heap.Le.refl _) hb h.2⟩
 |[],_,[],h=>h.elim
 |y::a,ha,v::vs,h=>⟨Atom.sat_congr (Heap.Le.refl _) (λk hk=>ha k (by simp[jq,hk])) h.1,Hw hb hx (λk hk=>ha k (by simp[jq,hk])) h.2⟩
 |_::_,_,[],h=>h.elim
theorem C5(pre post:List WA)(a:WA)(x:Atom)(h:a.exp=[x]):WAs.exp (pre++a::post)=WAs.exp pre++x::WAs.exp post:=by
 rw[WAs.exp_app];congr 1
 show a.exp++_=_;rw[h];rfl
theorem Kq{n:Nat}{Ks:List Nat}{st:WSt}(hk:st.Ok){kb K:Nat}{k:Option Nat}{pre post:List WA}{a0:WA}{t:Ty}{b0:Bd}{l:List t.den}(hr:DQ st kb K k=true){m w nb:Nat}(hm:m<=nb)(hB:(WB.gro t b0 l).ok)
  (hbox:look st.L kb=some (.rig (pre++a0::post)))(f1:zT K k (WAs.ids pre)=true)(f2:zT K k (WAs.ids post)=true)
  (hold:(∃k0,k=some k0/\k0≠K/\a0= .gs k0 m w nb/\look st.L k0=some (.gro t b0 l))\/(k=none/\m=0/\l=[]/\a0= .vl (.slice none 0 0))):
  EntW n Ks st (zC st kb K k (pre++ .gs K m w nb::post) (.gro t b0 l))/\(zC st kb K k (pre++ .gs K m w nb::post) (.gro t b0 l)).Ok:=by
 unfold DQ at hr;simp only[q4R,List.all_eq_true]at hr;obtain⟨⟨⟨⟨⟨⟨⟨r0,r1⟩,r2⟩,r6⟩,r7⟩,r3⟩,r4⟩,r5⟩:=hr;have r0:K<100000:=by simpa using r0
 have r6:kb≠K:=λe=>by subst e;simp at r6
 have r7: ∀k0,k=some k0->kb≠k0:=λk0 h e=>by subst h e;simp at r7
 have r3:look st.rL kb=none:=Option.isNone_iff_eq_none.1 r3;generalize hcs:pre++WA.gs K m w nb::post=cs;have hboxL:qe st kb=some (.rig (pre++a0::post)):=by unfold qe;rw[hbox]
 have hslot: ∀t v',qw (zC st kb K k cs (.gro _ b0 l)) t=some v'->qw st t=some v'/\K∉v'.ids:=by
  intro t v' h;unfold qw zC at h;simp only at h
  cases hf:look (st.m.filter (λp=>zT K k p.2.ids)) t with
  |some x=>
   rw[hf]at h;simp at h;subst h
   obtain⟨h1,h2⟩:=z5 r1 hf;exact⟨by unfold qw;rw[h1],(wL h2).1⟩
  |none=>
   rw[hf]at h;simp only at h
   refine⟨?_,(wL (r4 _ (qU h))).1⟩;unfold qw;rw[hk.dm t (by rw[h];simp)];exact h
 have hblk: ∀q b',qe (zC st kb K k cs (.gro _ b0 l)) q=some b'->(q=K/\b'= .gro _ b0 l)\/(q=kb/\b'= .rig cs)\/(q≠K/\q≠kb/\qe st q=some b'/\K∉b'.ids/\ ∀k0,k=some k0->q≠k0):=by
  intro q b' h;unfold qe zC at h;simp only[look]at h;by_cases e:K=q
  .subst e;simp at h;exact .inl ⟨rfl,h.symm⟩
  .rw[j5 e]at h;simp only[cond_false]at h
   by_cases e2:kb=q
   .subst e2;simp at h;exact .inr (.inl ⟨rfl,h.symm⟩)
   .rw[j5 e2]at h;simp only[cond_false]at h
    refine .inr (.inr ⟨λe'=>e e'.symm,λe'=>e2 e'.symm,?_⟩)
    cases hf:look (st.L.filter (λp=>!Nat.beq p.1 kb&&renL K k p)) q with
    |some x=>
     rw[hf]at h;simp at h;subst h
     obtain⟨h1,h2⟩:=z5 r2 hf;simp only[renL,q4R,q4T]at h2;refine⟨by unfold qe;rw[h1],λhm=>by rw[vU.2 hm]at h2;exact absurd h2.2.1.2 (by simp),λk0 hk0 e=>?_⟩;subst hk0 e;simp at h2
    |none=>
     rw[hf]at h;simp only at h
     have h4:=(r5 _ (qU h));simp only[renL,q4R,q4T]at h4;refine⟨?_,λhm=>by rw[vU.2 hm]at h4;exact absurd h4.1.2 (by simp),λk0 hk0 e=>?_⟩
     .unfold qe;rw[hk.dl q (by rw[h];simp)];exact h
     .subst hk0 e;simp at h4
 refine⟨?_,⟨λt v' h=>?_,λq b' h=>?_,λt ht=>?_,λq hq=>?_⟩⟩
 .intro E hn hK a w' H β hrep
  let β':Bm:=λq=>if q=K then(match k with|some k0=>β k0|none=>none)else β q
  have hβ: ∀q,q≠K->β' q=β q:=λq h=>if_neg h
  have hβK:β' K=(match k with|some k0=>β k0|none=>none):=if_pos rfl
  have holdL: ∀k0,k=some k0->look st.L k0=some (.gro _ b0 l)/\qe st k0=some (.gro _ b0 l):=by
   intro k0 h0;rcases hold with⟨k1,h1,_,_,h2⟩|⟨h1,_⟩
   .rw[h0]at h1;cases h1
    exact⟨h2,by unfold qe;rw[h2]⟩
   .rw[h0]at h1;cases h1
  have hcA: ∀(v':WV),K∉v'.ids-> ∀q,v'.exp.men q=true->β' q=β q:=λv' h q hq=>hβ q λe=>h (e▸WV.men_ids hq)
  have hcB: ∀(b':WB),K∉b'.ids-> ∀q,b'.exp.men q=true->β' q=β q:=λb' h q hq=>hβ q λe=>h (e▸WB.men_ids hq)
  have hcL: ∀(c:List WA),K∉WAs.ids c-> ∀q,jq q (WAs.exp c)=true->β' q=β q:=λc h q hq=>hβ q λe=>h (e▸WAs.men_ids hq)
  have hrepL: ∀k0,k=some k0->(WB.gro _ b0 l).exp.rep β w' H k0:=λk0 h0=>hrep.blk k0 _ (by rw[qf,qv,(holdL k0 h0).2];rfl)
  have hin: ∀q b',qe (zC st kb K k cs (.gro _ b0 l)) q=some b'-> ∀b c,β' q=some (b,c)-> ∃q0 x,qo st.toA (2*q0+1)=some (.bl x)/\β q0=some (b,c)/\(q=K->k=some q0)/\(q≠K->q0=q):=by
   intro q b' h b c hb;rcases hblk q b' h with⟨rfl,rfl⟩|⟨rfl,rfl⟩|⟨h1,_,h2,h3,h4⟩
   .rw[hβK]at hb
    cases k with
    |none=>cases hb
    |some k0=>exact⟨k0,_,by rw[qf,qv,(holdL k0 rfl).2];rfl,hb,λ_=>rfl,λh=>absurd rfl h⟩
   .rw[hβ q r6]at hb
    exact⟨q,_,by rw[qf,qv,hboxL];rfl,hb,λh=>absurd h r6,λ_=>rfl⟩
   .rw[hβ q h1]at hb
    exact⟨q,_,by rw[qf,qv,h2];rfl,hb,λh=>absurd h h1,λ_=>rfl⟩
  refine⟨H,β',⟨hrep.defers,hrep.size,?_,?_,?_,?_,λq hq=>?_,hrep.os,hrep.tape,hrep.output,hrep.wsize,hrep.frame,hrep.hle,hrep.hnew,hrep.hon⟩⟩
  .intro t av ht
   rw[qA,jH]at ht
   cases hv:qw (zC st kb K k cs (.gro _ b0 l)) t with
   |none=>rw[hv]at ht;cases ht
   |some v'=>
    rw[hv]at ht;simp at ht;subst ht
    obtain⟨h2,h3⟩:=hslot t v' hv;obtain⟨u,hu,hsat⟩:=hrep.slot t _ (by rw[qA,jH,h2];rfl);exact⟨u,hu,AV.sat_congr (Heap.Le.refl _) (hcA v' h3) hsat⟩
  .intro q x hx
   rw[qf,qv]at hx
   cases hv:qe (zC st kb K k cs (.gro _ b0 l)) q with
   |none=>rw[hv]at hx;cases hx
   |some b'=>
    rw[hv]at hx;simp at hx;subst hx
    rcases hblk q b' hv with⟨rfl,rfl⟩|⟨rfl,rfl⟩|⟨h1,_,h2,h3,h4⟩
    .rcases hold with⟨k0,rfl,hne,hs,hl⟩|⟨rfl,rfl,rfl,hs⟩
     .have h9:=hrepL k0 rfl
      rcases h9 with⟨h5,h6⟩|⟨b,c,arr,T,h5,h6,h7,h8,h9⟩
      .exact .inl ⟨by rw[hβK];exact h5,h6⟩
      .refine .inr ⟨b,c,arr,T,by rw[hβK];exact h5,h6,h7,h8,?_⟩
       exact Sats.congr (Heap.Le.refl _) (λq hq=>by rw[zR]at hq;cases hq) h9
     .exact .inl ⟨hβK,rfl⟩
    .obtain⟨b,c,arr,T,h5,h6,h7⟩:=hrep.blk q _ (by rw[qf,qv,hboxL];rfl)
     refine⟨b,c,arr,T,by rw[hβ q r6];exact h5,h6,?_⟩;subst hcs;rw[C5 _ _ _ (.gs K m) rfl];rcases hold with⟨k0,rfl,hne,rfl,hl⟩|⟨rfl,rfl,rfl,rfl⟩
     .rw[C5 _ _ _ (.gs k0 m) rfl]at h7
      refine Hw (hcL post (wL f2).1) (λu hu=>?_) (hcL pre (wL f1).1) h7;rcases hu with⟨h5,h6,h7⟩|⟨b,c,h5,h6⟩
      .exact .inl ⟨by rw[hβK];exact h5,h6,h7⟩
      .exact .inr ⟨b,c,by rw[hβK];exact h5,h6⟩
     .rw[C5 _ _ _ (.val (.slice none 0 0)) rfl]at h7
      refine Hw (hcL post (wL f2).1) (λu hu=>?_) (hcL pre (wL f1).1) h7;exact .inl ⟨hβK,rfl,hu.1⟩
    .refine Blk.rep_congr (hrep.blk q b'.exp (by rw[qf,qv,h2];rfl)) (Heap.Le.refl _) ?_ (λ_ _ _=>rfl)
     rintro q' (rfl|hq')
     .exact hβ _ h1
     .exact hcB b' h3 q' hq'
  .intro q x b c hx hb
   rw[qf,qv]at hx
   cases hv:qe (zC st kb K k cs (.gro _ b0 l)) q with
   |none=>rw[hv]at hx;cases hx
   |some b'=>
    obtain⟨q0,y,h1,h2,_,_⟩:=hin q b' hv b c hb;exact hrep.own q0 y b c h1 h2
  .intro q q' x x' b c c' hx hx' hne hb hb'
   rw[qf,qv]at hx hx'
   cases hv:qe (zC st kb K k cs (.gro _ b0 l)) q with
   |none=>rw[hv]at hx;cases hx
   |some b1=>
    cases hv':qe (zC st kb K k cs (.gro _ b0 l)) q' with
    |none=>rw[hv']at hx';cases hx'
    |some b2=>
     obtain⟨q0,y,h1,h2,h3,h4⟩:=hin q b1 hv b c hb;obtain⟨q0',y',h1',h2',h3',h4'⟩:=hin q' b2 hv' b c' hb';refine hrep.inj q0 q0' y y' b c c' h1 h1' ?_ h2 h2';intro e;by_cases eq:q=K
     .have k1:=h3 eq
      have hq':q'≠K:=λe'=>hne (eq.trans e'.symm)
      have:=h4' hq';rcases hblk q' b2 hv' with⟨e',_⟩|⟨e',_⟩|⟨_,_,_,_,h9⟩
      .exact hq' e'
      .exact r7 q0 k1 (by rw[e,this,e'])
      .exact h9 q0 k1 (by rw[<-this,e])
     .have:=h4 eq
      by_cases eq':q'=K
      .have k1:=h3' eq'
       rcases hblk q b1 hv with⟨e',_⟩|⟨e',_⟩|⟨_,_,_,_,h9⟩
       .exact eq e'
       .exact r7 q0' k1 (by rw[<-e,this,e'])
       .exact h9 q0' k1 (by rw[<-this,e])
      .exact hne (by rw[<-h4 eq,<-h4' eq',e])
  .rw[hβ q (λe=>by have:=E.hKs q hq;omega)];exact hrep.bor q hq
 .exact hk.m t v' (hslot t v' h).1
 .rcases hblk q b' h with⟨_,rfl⟩|⟨_,rfl⟩|⟨_,_,h2,_⟩
  .exact hB
  .have h0:WAs.ok (pre++a0::post):=hk.l kb (.rig (pre++a0::post)) hboxL
   obtain⟨h1,h2⟩:=WAs.ok_app.1 h0;subst hcs;exact WAs.ok_app.2 ⟨h1,WAs.ok_cons.2 ⟨hm,(WAs.ok_cons.1 h2).2⟩⟩
  .exact hk.l q b' h2
 .exact As (hk.dm t ht)
 .show look ((K,WB.gro t b0 l)::(kb,.rig cs)::st.L.filter (λp=>!Nat.beq p.1 kb&&renL K k p)) q=none
  have hq':look st.rL q≠none:=hq;obtain⟨x,hx⟩:=Option.ne_none_iff_exists'.1 hq';have h4:=(r5 _ (qU hx));simp only[renL,q4R,q4T]at h4;have hne:K≠q:=λe=>by subst e;simp at h4
  have hne2:kb≠q:=λe=>by subst e;exact hq' r3
  simp only[look,j5 hne,j5 hne2,cond_false];exact As (hk.dl q hq')
theorem Tq{n:Nat}{Ks:List Nat}{st st':WSt}(hk:st.Ok){kb i K:Nat}{t:Ty}{b:Bd}(h:renB kb i K t b st=some st'):EntW n Ks st st'/\st'.Ok/\st'.rm=st.rm/\st'.rL=st.rL:=by
 unfold renB at h;split at h
 .rename_i l hbox
  have hl: ∀{a:WA}{post:List WA},l.drop i=a::post->look st.L kb=some (.rig (l.take i++a::post)):=λe=>by rw[<-e,List.take_append_drop];exact hbox
  split at h
  .rename_i k m w nb post hd
   cases hb:Nat.beq k K with
   |true=>rw[hb]at h;simp at h;subst h;exact⟨Ent.refl,hk,rfl,rfl⟩
   |false=>
    rw[hb]at h;simp only[cond_false]at h
    split at h
    .rename_i t' b' xs hL
     cases hr:DQ st kb K (some k)&&(zT K (some k) (WAs.ids (l.take i))&&zT K (some k) (WAs.ids post))with
     |false=>rw[hr]at h;cases h
     |true=>
      rw[hr]at h;simp at h;subst h
      simp only[q4R]at hr;have hB:(WB.gro t' b' xs).ok:=hk.l k _ (by unfold qe;rw[hL]);have hok:WAs.ok (l.take i++ .gs k m w nb::post):=hk.l kb (.rig (l.take i++ .gs k m w nb::post)) (by unfold qe;rw[hl hd]);have hmn:m<=nb:=(WAs.ok_cons.1 (WAs.ok_app.1 hok).2).1;obtain⟨h1,h2⟩:=Kq (n:=n) (Ks:=Ks) hk hr.1 hmn hB (hl hd) hr.2.1 hr.2.2 (.inl ⟨k,rfl,(λe=>by subst e;simp at hb),rfl,hL⟩);exact⟨h1,h2,rfl,rfl⟩
    .cases h
  .rename_i a post hne hd
   cases hc:vG a&&(DQ st kb K none&&(zT K none (WAs.ids (l.take i))&&zT K none (WAs.ids post)))with
   |false=>rw[hc]at h;cases h
   |true=>
    rw[hc]at h;simp at h;subst h
    simp only[q4R]at hc;have:=zH hc.1;subst this
    obtain⟨h1,h2⟩:=Kq (n:=n) (Ks:=Ks) (t:=t) (b0:=b) (l:=[]) (w:=t.w) hk hc.2.1 (q5H 0) (λx hx=>by simp at hx) (hl hd) hc.2.2.1 hc.2.2.2 (.inr ⟨rfl,rfl,rfl,rfl⟩);exact⟨h1,h2,rfl,rfl⟩
  .cases h
 .cases h
def Sd(kb K:Nat)(pre post:List WA)(t:Ty)(b:Bd)(nb:Nat)(st:WSt):Option (List Prop×List t.den):=
 match look st.rL kb,look st.rL K with
 |none,none=>match look st.L kb,look st.L K with
  |some (.rig c),some (.gro t' b' l)=>match c.drop pre.length with
   | .gs k n w nb'::post'=>if h:(Ty.sl t').beq (.sl t)=true then
     (bif Nat.beq k K&&Nat.beq w t.w then some ((c.take pre.length=pre)::(post'=post)::(n=l.length)::((bif Nat.ble nb' nb then[]else[n<=nb])++(bif b'.le b then[]else[∀x∈vo (t:= .sl t') (t':= .sl t) h l,Bnd t b x])),vo (t:= .sl t') (t':= .sl t) h l)else none)else none
   |_=>none
  |_,_=>none
 |_,_=>none
def gboX(kb K:Nat)(pre post:List WA)(t:Ty)(b:Bd)(nb:Nat):HavX where
 t:= .sl t
 bnd l:=(List.length (show List t.den from l)<=nb/\ ∀x∈(show List t.den from l),Bnd t b x)/\WAs.ok pre/\WAs.ok post
 ss:=[]
 bs:=[kb,K]
 gb:=[K]
 m _:=[]
 L l:=[(kb,.rig (pre++ .gs K (List.length (show List t.den from l)) t.w nb::post)),(K,.gro t b l)]
 val st:=Sd kb K pre post t b nb st
 ren st:=renB kb pre.length K t b st
 hm:=λ_ p hp=>by simp at hp
 hL:=by
  intro x hx p hp;simp only[q5j,q5r,or_false]at hp;rcases hp with rfl|rfl
  .exact⟨by simp,WAs.ok_app.2 ⟨hx.2.1,WAs.ok_cons.2 ⟨hx.1.1,hx.2.2⟩⟩⟩
  .exact⟨by simp,hx.1.2⟩
 hval:=by
  intro st vc x hk e hvc;unfold Sd at e;split at e
  .rename_i hr1 hr2
   split at e
   .rename_i c t' b' l h1 h2
    split at e
    .rename_i k n w nb' post' hd
     split at e
     .rename_i hb
      have:=Ty.beq_eq hb;cases this
      cases hc:Nat.beq k K&&Nat.beq w t.w with
      |false=>rw[hc]at e;cases e
      |true=>
       rw[hc]at e;simp only[cond_true,q68,q69]at e;obtain⟨rfl,rfl⟩:=e
       simp only[q4R]at hc;have q1:=q5C hc.1;have q2:=q5C hc.2;subst q1 q2;have e1:c.take pre.length=pre:=hvc _ q5l;have e2:post'=post:=hvc _ (by simp);have e3:n=l.length:=hvc _ (by simp);obtain⟨p1,p2⟩:=AllP.app (λp hp=>hvc p (q5k _ (q5k _ (q5k _ hp))));subst e2
       have hcc:c=pre++ .gs k n t.w nb'::post':=by
        have h9:=List.take_append_drop pre.length c;rw[e1,hd]at h9;exact h9.symm
       have hL1:qe st kb=some (.rig c):=by unfold qe;rw[h1]
       have hL2:qe st k=some (.gro t b' l):=by unfold qe;rw[h2]
       have e5: ∀x∈l,Bnd t b x:=by
        cases hle:b'.le b with
        |true=>exact λx hx=>Bnd.mono hle ((hk.l k _ hL2) x hx)
        |false=>rw[hle]at p2;exact p2 (∀x∈l,Bnd t b x) q5l
       have hok:WAs.ok c:=hk.l kb (.rig c) hL1;rw[hcc]at hok;obtain⟨o1,o2⟩:=WAs.ok_app.1 hok;have hnn:n<=nb':=(WAs.ok_cons.1 o2).1
       have e4:n<=nb:=by
        cases hle:Nat.ble nb' nb with
        |true=>have:=q5E hle;omega
        |false=>rw[hle]at p1;exact p1 (n<=nb) q5l
       refine⟨⟨⟨by show l.length<=nb;omega,e5⟩,o1,(WAs.ok_cons.1 o2).2⟩,λp hp=>by simp at hp,λp hp=>?_⟩;simp only[q5j,q5r,or_false]at hp;rcases hp with rfl|rfl
       .refine⟨hr1,_,hL1,?_⟩
        show BImp kb (.rigid (WAs.exp c)) (.rigid (WAs.exp (pre++ .gs k l.length t.w nb::post')));rw[hcc,C5 _ _ _ (.gs k n) rfl,C5 _ _ _ (.gs k l.length) rfl,e3];exact λ_ _ _ h=>h
       .exact⟨hr2,_,hL2,λ_ _ _ h=>h⟩
     .cases e
    .cases e
   .cases e
  .cases e
 hren:=λhk h=>Tq hk h
section
section
variable {P:Program}
theorem QZ {op : Op} {ty : TypeId} {ins : List (Operand × AV)} {k : Nat} {b b' : Blk} {R : AV} (hi : BImp k b b')
  (h : ∀ (a : Act) (w : World) (H : Heap) (β : Bm), (∀ p ∈ ins, p.2.sat β H (a.eval p.1)) -> b.rep β w H k -> Heap.On H w ->
   ∃ v, R.sat β H v /\ ∀ dst pos after guard, (execOp a.eval ⟨dst, op, ty, pos, after, guard⟩).run P w = .ok (.value v) w) : OpOk P op ty ins [(k, b)] R [(k, some b')] := by
 intro dst pos after guard a w H β K Q hins hkin _ hon hK;have hr := (hkin (k, b) q5l).1;obtain ⟨v, hv, hrun⟩ := h a w H β hins hr hon;unfold Oper.wp;rw [hrun];refine hK v w H β (by simpa [kwOf, qt, jr, look] using Step.same k hon) hv λk' b1 hb1 => ?_
 simp only [q5p, q69, q68] at hb1;obtain ⟨rfl, rfl⟩ := hb1;exact hi _ _ _ hr
theorem T9{t ty:TypeId}{x:Operand}{k off s:Nat}{cs cs':List Atom}{u:Atom}(hs:qE P t=some (false,s))(hl:cs[off]?=some u)(hc:AImps cs cs'):
  OpOk P (.load t x) ty [(x,.c (.one (.loc k off)))] [(k,.rigid cs)] (.c (.one u)) [(k,some (.rigid cs'))]:=
 QZ (zr hc) λa w H β hins hk _=>by
  obtain⟨b,c,hβ,hx⟩:=hins _ q5l;obtain⟨b',c',arr,T,hβ',hb,hsat⟩:=hk;simp only at hβ hx;rw[hβ]at hβ';cases hβ'
  obtain⟨v,hv,hu⟩:=Sats.get off hsat hl;refine⟨v,hu,λ_ _ _ _=>?_⟩
  simp only[execOp,Instr.loadAt,hx,Instr.sureAddr,q6b,q6c,q6a,
   vT hs hb (off:=off) (by simpa using hv)]
def gLF(P:Program):Op->Option Tmp->(Nat->Option WB)->List WV->HR
 | .load ty _,_,bl,[.c (.one (.loc k off))]=>match bl k,qE P ty with
  |some (.rig l),some (false,s)=>match carve l off 1 with
   |some (a,[m],p)=> .ok [] (.c (.one m)) [k] [(k,some (.rig (a++ .un::p)))]
   |_=> .bad
  |_,_=> .bad
 |_,_,_,_=> .bad
def Ic:Ext P:=⟨gLF P,by
 intro op dst ty bl vs hl;unfold gLF;split
 .rename_i ty' x k off
  split
  .rename_i l s hbl hs
   split
   .rename_i a m p hc
    intro hv hbo _ kin hk hkb;rw[zp hk hkb hbl];obtain⟨e,l1,l2,o⟩:=ja hc;obtain⟨oa,om,op⟩:=o (hbo k _ hbl);have hm1:(WAs.exp [m]).length=1:=l2;have hme:WAs.exp [m]=m.exp:=by simp[WAs.exp]
    rw[hme]at hm1;have hwd:m.wd=1:=by rw[<-m.exp_len];exact hm1
    obtain⟨u,hu⟩:=VK hm1
    have hat:(WAs.exp l)[off]?=some u:=by
     rw[e,List.getElem?_append_right (by omega),l1,Nat.sub_self,hme,hu];rfl
    have himp:AImps (WAs.exp l) (WAs.exp (a++ .un::p)):=by
     rw[e,C5 _ _ _ (.abs unP) rfl,hme,hu];exact zL jm ⟨λ_ _ _ h=>Atom.sat_one h,jm⟩
    have hmok:m.ok:=om m q5l;refine⟨?_,⟨hmok,hwd⟩,vX (WAs.ok_app.2 ⟨oa,WAs.ok_cons.2 ⟨trivial,op⟩⟩)⟩;have:=T9 (P:=P) (t:=ty') (ty:=ty) (x:=x) (k:=k) (off:=off) (s:=s) hs hat himp;refine this.weak (λβ H v h=>?_) (F1 λ_ _ _ h=>h);show(AV.c (.one (m.exp.headD (.val (.bool false))))).sat β H v;rw[hu];exact h
   .exact trivial
  .exact trivial
 .exact trivial⟩
end
end
abbrev UB:FB:=⟨19,(.pr (.sl (.int .i64)) (.nat .i64)),(.p (.s 1048576 (.n 9223372036854775808)) (.n 1048576)),[(.int .i64),(.int .i64)],[(.n 1048576),(.n 1048576)],λs z=>(λ(d:Int)(inner:Int)=>[1<=d,d<=5,0<=inner,inner<=4]) z.1 z.2,λtb b s z=>(λ(d:Int)(inner:Int)=> .c (.one (.dt (.sl .rat) (.s 16 (.n 6)) (jg d inner s)))) z.1 z.2,λs z=>(λ(d:Int)(inner:Int)=>jE d inner s) z.1 z.2,λtb b=> .p tb.l (.n (max tb.r.nb tb.l.len))⟩
theorem UC:UB.OK Tryz.prog:=mkB' hmix 80 Tryz.func19 rfl rfl (by decide) [(9,.b C4),(21,.c Uf),(22,.c J7),(24,.c K8),(41,.c Ch)] (λ_=>rfl) (λ_ _=>rfl) (λ_ _ _ _=>rfl) (λ(s:List Int×Nat)(d:Int)(inner:Int) tb b hs hx hp=>⟨qg (Hf s (hp _ (by simp)) (hp _ (by simp)) (hp _ (by simp))) rfl,He hs⟩) (λ(s:List Int×Nat)(d:Int)(inner:Int) hs hx hp=>by
 have hx0:Int.natAbs d<=1048576:=hx.1;have hx1:Int.natAbs inner<=1048576:=hx.2;have hp0:1<=d:=hp _ (q5l);have hp1:d<=5:=hp _ (q5k _ (q5l));have hp2:0<=inner:=hp _ (q5k _ (q5k _ (q5l)));have hp3:inner<=4:=hp _ (q5k _ (q5k _ (q5k _ (q5l))))
 refine⟨.loop [.s 9 (.nat .i64) (.n 7),.g 8 90001 .rat (.n 6) 1048576] (λ((i,k):Nat×List Rat)=>k=List.replicate i ((qa s 4-2:Int):Rat)/\(i:Int)<=d+1) (λ((i,k):Nat×List Rat)=>(d+1).toNat-i) (λ((i,k):Nat×List Rat)=> .cond (.h 6 2 (.mk (.im .rat (.n 6))) (.nil)) (.loop [.s 10 (.int .i64) (.n 5),.g 8 90002 .rat (.n 6) 1048576,.r 7 .rat (.n 6),.r 100000 (.pr (.sl (.int .i64)) (.nat .i64)) (.p (.s 1048576 (.n 9223372036854775808)) (.n 1048576))] (λ((m,k2,t,u):Int×List Rat×Rat×List Int×Nat)=>knN d (m).toNat (k2,t,u)=knR d inner s/\0<=m/\m<=4/\KnI (4+6*(4-(m)).toNat) (10-(m).toNat) (k2,t,u)/\d+1<=(k2.length:Int)) (λ((m,k2,t,u):Int×List Rat×Rat×List Int×Nat)=>(m).toNat) (λ((m,k2,t,u):Int×List Rat×Rat×List Int×Nat)=> .cond (.cond (.h 12 2 (.mk (.im .rat (.n 60))) (.h 9 1 (.i (.z (m-1) 5)) (.nil))) (.cond (.h 12 2 (.mk (.im .rat (.n 60))) (.h 9 1 (.i (.z (m-1) 5)) (.nil))) (.h 10 16 (.i (.n (((k2.length:Int) -d).toNat) 1048576)) (.cond (.h 12 2 (.mk (.im .rat (.n 60))) (.h 9 1 (.i (.z (m-1) 5)) (.nil))) (.h 12 2 (.mk (.im .rat (.n 60))) (.h 9 1 (.i (.z (m-1) 5)) (.nil))))))) (.loop [.s 11 (.nat .i64) (.n 7),.g 8 90003 .rat (.n 6) 1048576] (λ((j,k3):Nat×List Rat)=>k3=k2++List.replicate j (t+((1:Int):Rat))/\(j:Int)<=d+1) (λ((j,k3):Nat×List Rat)=>(d+1).toNat-j) (λ((j,k3):Nat×List Rat)=> .cond (.h 17 2 (.mk (.im .rat (.n 60))) (.nil)) (.pre 18 (.frz 90003 true [8]) (.nil))))))),kcast (by kernel_rfl) (I (?_:(0:Int)<4) (I (rfl:0=([]:List Rat).length) (I (⟨rfl,by omega⟩:([]:List Rat)=List.replicate 0 ((qa s 4-2:Int):Rat)/\(0:Int)<=d+1) (λ(i:Nat)(k:List Rat)(hb1:HB [.s 9 (.nat .i64) (.n 7),.g 8 90001 .rat (.n 6) 1048576] (i,k))(hI:k=List.replicate i ((qa s 4-2:Int):Rat)/\(i:Int)<=d+1)=>have hv20:=(show i<=7 from hb1.1);have hv21:=(show k.length<=1048576 from hb1.2.1);have hkl:=(show k.length=i by rw[hI.1,List.length_replicate]);Sp ((i:Int)<=d) (λh2=>I (?_:k.length=k.length) (I (show(i+1)<=7 by omega:Bnd (.nat .i64) (.n 7) (i+1)) (I (by(try simp only[q5b,q5c,q5f])<;>omega:k.length+[(((qa s 4) -2:Int):Rat)].length=(k++[(((qa s 4) -2:Int):Rat)]).length) (I (by(try simp only[q5b,q5c,q5f])<;>omega:k.length+[(((qa s 4) -2:Int):Rat)].length<=1048576) (q4P (⟨by rw[hI.1,List.replicate_succ'],by omega⟩:(k++[(((qa s 4) -2:Int):Rat)])=List.replicate (i+1) ((qa s 4-2:Int):Rat)/\(i+1:Int)<=d+1) (?_:(d+1).toNat-(i+1)<(d+1).toNat-i)))))) (λh3=>have hnv:=(va (q9 s) (m:=inner+1) (by omega));I (?_:(0:Int)<inner+1) (I (show Int.natAbs (qa (q9 s) (inner+1))<=5 by omega:Bnd (.int .i64) (.n 5) (qa (q9 s) (inner+1))) (I (?_:k.length=k.length) (I (Vb hI h3 hp1 hp2 hp3:knN d (qa (q9 s) (inner+1)).toNat (k,(((qa s 4) -2:Int):Rat),q9 (q9 s))=knR d inner s/\0<=qa (q9 s) (inner+1)/\qa (q9 s) (inner+1)<=4/\KnI (4+6*(4-(qa (q9 s) (inner+1))).toNat) (10-(qa (q9 s) (inner+1)).toNat) (k,(((qa s 4) -2:Int):Rat),q9 (q9 s))/\d+1<=(k.length:Int)) (λ(m:Int)(k2:List Rat)(t:Rat)(u:List Int×Nat)(hb4:HB [.s 10 (.int .i64) (.n 5),.g 8 90002 .rat (.n 6) 1048576,.r 7 .rat (.n 6),.r 100000 (.pr (.sl (.int .i64)) (.nat .i64)) (.p (.s 1048576 (.n 9223372036854775808)) (.n 1048576))] (m,k2,t,u))(hJ:knN d (m).toNat (k2,t,u)=knR d inner s/\0<=m/\m<=4/\KnI (4+6*(4-(m)).toNat) (10-(m).toNat) (k2,t,u)/\d+1<=(k2.length:Int))=>have hv18:=(show Int.natAbs m<=5 from hb4.1);have hv19:=(show k2.length<=1048576 from hb4.2.1.1);have hkl4:=hJ.2.2.2.2;have hkl2:=(show k2.length<=10 from q5I hJ.2.2.2.1.l (by omega));Sp (0<m) (λh5=>Sp (((k2.length:Nat):Int)=d+1) (λh6=>I (?_:(0:Int)<3) (I (?_:(0:Int)<2) (I (?_:k2.length=k2.length) (I ((λx hx=>by rw[q5p.1 hx];first|exact((hJ.2.2.2.1.t.addT _).le (by omega)).bnd|exact(hJ.2.2.2.1.t.le (by omega)).bnd: ∀x∈[t+(((1+(qa u 3):Int):Rat)/((1+(qa (q9 u) 2):Int):Rat))],Bnd .rat (.n 6) x): ∀x∈[t+(((1+(qa u 3):Int):Rat)/((1+(qa (q9 u) 2):Int):Rat))],Bnd .rat (.n 6) x) (I (Cj rfl (by omega):vO .sub .i64 m 1 (m-1)) (I (?_:Int.natAbs (m-1)<=5) (have hN:=Gc (by omega) hJ (q3G h6);I (by(try simp only[q5b,q5c,q5f])<;>omega:k2.length+[t+(((1+(qa u 3):Int):Rat)/((1+(qa (q9 u) 2):Int):Rat))].length=(k2++[t+(((1+(qa u 3):Int):Rat)/((1+(qa (q9 u) 2):Int):Rat))]).length) (I (by(try simp only[q5b,q5c,q5f])<;>omega:k2.length+[t+(((1+(qa u 3):Int):Rat)/((1+(qa (q9 u) 2):Int):Rat))].length<=1048576) (I ((hN.2.2.2.1.t.le (by omega)).bnd:Bnd .rat (.n 6) (t+(((1+(qa u 3):Int):Rat)/((1+(qa (q9 u) 2):Int):Rat)))) (q4P (hN:knN d (m-1).toNat (k2++[t+(((1+(qa u 3):Int):Rat)/((1+(qa (q9 u) 2):Int):Rat))],t+(((1+(qa u 3):Int):Rat)/((1+(qa (q9 u) 2):Int):Rat)),q9 (q9 u))=knR d inner s/\0<=m-1/\m-1<=4/\KnI (4+6*(4-(m-1)).toNat) (10-(m-1).toNat) (k2++[t+(((1+(qa u 3):Int):Rat)/((1+(qa (q9 u) 2):Int):Rat))],t+(((1+(qa u 3):Int):Rat)/((1+(qa (q9 u) 2):Int):Rat)),q9 (q9 u))/\d+1<=((k2++[t+(((1+(qa u 3):Int):Rat)/((1+(qa (q9 u) 2):Int):Rat))]).length:Int)) (?_:(m-1).toNat<(m).toNat))))))))))) (λh7=>I (?_:(0:Int)<3) (Sp (0<qa u 3) (λh8=>I (?_:(0:Int)<3) (I (?_:(0:Int)<2) (I (?_:k2.length=k2.length) (I ((λx hx=>by rw[q5p.1 hx];first|exact((hJ.2.2.2.1.t.addT _).le (by omega)).bnd|exact(hJ.2.2.2.1.t.le (by omega)).bnd: ∀x∈[t+(((1+(qa (q9 u) 3):Int):Rat)/((1+(qa (q9 (q9 u)) 2):Int):Rat))],Bnd .rat (.n 6) x): ∀x∈[t+(((1+(qa (q9 u) 3):Int):Rat)/((1+(qa (q9 (q9 u)) 2):Int):Rat))],Bnd .rat (.n 6) x) (I (Cj rfl (by omega):vO .sub .i64 m 1 (m-1)) (I (?_:Int.natAbs (m-1)<=5) (have hN:=Gc (by omega) hJ (Xq h7 (.inl h8));I (by(try simp only[q5b,q5c,q5f])<;>omega:k2.length+[t+(((1+(qa (q9 u) 3):Int):Rat)/((1+(qa (q9 (q9 u)) 2):Int):Rat))].length=(k2++[t+(((1+(qa (q9 u) 3):Int):Rat)/((1+(qa (q9 (q9 u)) 2):Int):Rat))]).length) (I (by(try simp only[q5b,q5c,q5f])<;>omega:k2.length+[t+(((1+(qa (q9 u) 3):Int):Rat)/((1+(qa (q9 (q9 u)) 2):Int):Rat))].length<=1048576) (I ((hN.2.2.2.1.t.le (by omega)).bnd:Bnd .rat (.n 6) (t+(((1+(qa (q9 u) 3):Int):Rat)/((1+(qa (q9 (q9 u)) 2):Int):Rat)))) (q4P (hN:knN d (m-1).toNat (k2++[t+(((1+(qa (q9 u) 3):Int):Rat)/((1+(qa (q9 (q9 u)) 2):Int):Rat))],t+(((1+(qa (q9 u) 3):Int):Rat)/((1+(qa (q9 (q9 u)) 2):Int):Rat)),q9 (q9 (q9 u)))=knR d inner s/\0<=m-1/\m-1<=4/\KnI (4+6*(4-(m-1)).toNat) (10-(m-1).toNat) (k2++[t+(((1+(qa (q9 u) 3):Int):Rat)/((1+(qa (q9 (q9 u)) 2):Int):Rat))],t+(((1+(qa (q9 u) 3):Int):Rat)/((1+(qa (q9 (q9 u)) 2):Int):Rat)),q9 (q9 (q9 u)))/\d+1<=((k2++[t+(((1+(qa (q9 u) 3):Int):Rat)/((1+(qa (q9 (q9 u)) 2):Int):Rat))]).length:Int)) (?_:(m-1).toNat<(m).toNat))))))))))) (λh9=>I (Cj (by omega) (by omega):vO .sub .i64 ((k2.length:Nat):Int) d ((((k2.length:Int) -d).toNat:Nat):Int)) (I (?_:((k2.length:Int) -d).toNat<=1048576) (I (?_:((k2.length:Int) -d).toNat<k2.length) (I (?_:((k2.length:Int) -d).toNat<k2.length) (Sp (decide (t=(k2.getD (((k2.length:Int) -d).toNat) 0))=true) (λh10=>I (?_:(0:Int)<3) (I (?_:(0:Int)<2) (I (?_:k2.length=k2.length) (I ((λx hx=>by rw[q5p.1 hx];first|exact((hJ.2.2.2.1.t.addT _).le (by omega)).bnd|exact(hJ.2.2.2.1.t.le (by omega)).bnd: ∀x∈[t+(((1+(qa (q9 u) 3):Int):Rat)/((1+(qa (q9 (q9 u)) 2):Int):Rat))],Bnd .rat (.n 6) x): ∀x∈[t+(((1+(qa (q9 u) 3):Int):Rat)/((1+(qa (q9 (q9 u)) 2):Int):Rat))],Bnd .rat (.n 6) x) (I (Cj rfl (by omega):vO .sub .i64 m 1 (m-1)) (I (?_:Int.natAbs (m-1)<=5) (have hN:=Gc (by omega) hJ (Xq h7 (.inr (of_decide_eq_true h10)));I (by(try simp only[q5b,q5c,q5f])<;>omega:k2.length+[t+(((1+(qa (q9 u) 3):Int):Rat)/((1+(qa (q9 (q9 u)) 2):Int):Rat))].length=(k2++[t+(((1+(qa (q9 u) 3):Int):Rat)/((1+(qa (q9 (q9 u)) 2):Int):Rat))]).length) (I (by(try simp only[q5b,q5c,q5f])<;>omega:k2.length+[t+(((1+(qa (q9 u) 3):Int):Rat)/((1+(qa (q9 (q9 u)) 2):Int):Rat))].length<=1048576) (I ((hN.2.2.2.1.t.le (by omega)).bnd:Bnd .rat (.n 6) (t+(((1+(qa (q9 u) 3):Int):Rat)/((1+(qa (q9 (q9 u)) 2):Int):Rat)))) (q4P (hN:knN d (m-1).toNat (k2++[t+(((1+(qa (q9 u) 3):Int):Rat)/((1+(qa (q9 (q9 u)) 2):Int):Rat))],t+(((1+(qa (q9 u) 3):Int):Rat)/((1+(qa (q9 (q9 u)) 2):Int):Rat)),q9 (q9 (q9 u)))=knR d inner s/\0<=m-1/\m-1<=4/\KnI (4+6*(4-(m-1)).toNat) (10-(m-1).toNat) (k2++[t+(((1+(qa (q9 u) 3):Int):Rat)/((1+(qa (q9 (q9 u)) 2):Int):Rat))],t+(((1+(qa (q9 u) 3):Int):Rat)/((1+(qa (q9 (q9 u)) 2):Int):Rat)),q9 (q9 (q9 u)))/\d+1<=((k2++[t+(((1+(qa (q9 u) 3):Int):Rat)/((1+(qa (q9 (q9 u)) 2):Int):Rat))]).length:Int)) (?_:(m-1).toNat<(m).toNat))))))))))) (λh11=>I (?_:k2.length=k2.length) (I ((λx hx=>by rw[q5p.1 hx];first|exact((hJ.2.2.2.1.t.addT _).le (by omega)).bnd|exact(hJ.2.2.2.1.t.le (by omega)).bnd: ∀x∈[t],Bnd .rat (.n 6) x): ∀x∈[t],Bnd .rat (.n 6) x) (I (Cj rfl (by omega):vO .sub .i64 m 1 (m-1)) (I (?_:Int.natAbs (m-1)<=5) (have hN:=Gc (by omega) hJ (q3H h7 h9 (λe=>h11 (decide_eq_true e)));I (by(try simp only[q5b,q5c,q5f])<;>omega:k2.length+[t].length=(k2++[t]).length) (I (by(try simp only[q5b,q5c,q5f])<;>omega:k2.length+[t].length<=1048576) (q4P (hN:knN d (m-1).toNat (k2++[t],t,q9 u)=knR d inner s/\0<=m-1/\m-1<=4/\KnI (4+6*(4-(m-1)).toNat) (10-(m-1).toNat) (k2++[t],t,q9 u)/\d+1<=((k2++[t]).length:Int)) (?_:(m-1).toNat<(m).toNat)))))))))))))))) (λh12=>I (?_:k2.length=k2.length) (I (⟨by simp,by omega⟩:k2=k2++List.replicate 0 (t+((1:Int):Rat))/\(0:Int)<=d+1) (λ(j:Nat)(k3:List Rat)(hb13:HB [.s 11 (.nat .i64) (.n 7),.g 8 90003 .rat (.n 6) 1048576] (j,k3))(hL:k3=k2++List.replicate j (t+((1:Int):Rat))/\(j:Int)<=d+1)=>have hv16:=(show j<=7 from hb13.1);have hv17:=(show k3.length<=1048576 from hb13.2.1);have hkl3:=(show k3.length=k2.length+j by rw[hL.1,q5b,List.length_replicate]);Sp ((j:Int)<=d) (λh14=>I (?_:k3.length=k3.length) (I ((λx hx=>by rw[q5p.1 hx];exact(hJ.2.2.2.1.t.one.le (by omega)).bnd: ∀x∈[t+((1:Int):Rat)],Bnd .rat (.n 6) x): ∀x∈[t+((1:Int):Rat)],Bnd .rat (.n 6) x) (I (show(j+1)<=7 by omega:Bnd (.nat .i64) (.n 7) (j+1)) (I (by(try simp only[q5b,q5c,q5f])<;>omega:k3.length+[t+((1:Int):Rat)].length=(k3++[t+((1:Int):Rat)]).length) (I (by(try simp only[q5b,q5c,q5f])<;>omega:k3.length+[t+((1:Int):Rat)].length<=1048576) (q4P (⟨by rw[hL.1,List.replicate_succ',q4X],by omega⟩:(k3++[t+((1:Int):Rat)])=k2++List.replicate (j+1) (t+((1:Int):Rat))/\(j+1:Int)<=d+1) (?_:(d+1).toNat-(j+1)<(d+1).toNat-j))))))) (λh15=>I (?_:k3.length=k3.length) (q4P ((SD hJ h12 hL h15).1:u=jE d inner s) (((SD hJ h12 hL h15).2:k3=jg d inner s))))))))))))))))⟩<;>omega)
abbrev UA:CtrB Tryz.prog:=FB.c UC
section
abbrev Surf:Type:=Int×Int×List Rat×List Rat×List (List Pole)
abbrev IY:Ty:= .pr (.int .i64) (.pr (.int .i64) (.pr (.sl .rat) (.pr (.sl .rat) (.sl (.sl zZ)))))
def PosS(s:Surf):Prop:= ∀l∈s.2.2.2.2,∀p∈l,0<p.2
def vj(s:Surf)(l:List Pole):Prop:=((l.length:Nat):Int)=(s.2.2.2.1.length:Int) -s.2.1-1
instance(s:Surf)(l:List Pole):Decidable (vj s l):=by unfold vj;infer_instance
def rowB(s:Surf):Nat->Bool
 |0=>true
 |n+1=>rowB s n&&decide (vj s (s.2.2.2.2.getD n []))
def jO(s:Surf):Int:=
 if qQ s.2.2.1 s.1≠0 then qQ s.2.2.1 s.1 else if qQ s.2.2.2.1 s.2.1≠0 then qQ s.2.2.2.1 s.2.1 else
 if((s.2.2.2.2.length:Nat):Int)≠(s.2.2.1.length:Int) -s.1-1 then 1 else if rowB s s.2.2.2.2.length=false then 1 else 0
theorem M8(s:Surf):(jO s).natAbs<=8:=by
 have h1:=I0 s.2.2.1 s.1;have h2:=I0 s.2.2.2.1 s.2.1;unfold jO;split
 .omega
 split
 .omega
 split
 .decide
 split<;>decide
section
variable {s:Surf}
theorem W9{n:Nat}(h:rowB s n=true)(k:vj s (s.2.2.2.2.getD n [])):rowB s (n+1)=true:=by rw[rowB,h,decide_eq_true k];rfl
theorem ZN{n m:Nat}(k: ¬vj s (s.2.2.2.2.getD n []))(hm:n<m):rowB s m=false:=by
 induction m with
 |zero=>omega
 |succ m ih=>
  by_cases e:n=m
  .subst e;rw[rowB,decide_eq_false k,Bool.and_false]
  .rw[rowB,ih (by omega),Bool.false_and]
theorem Xc(h:qQ s.2.2.1 s.1≠0):qQ s.2.2.1 s.1=jO s:=by rw[jO,if_pos h]
theorem Xd(h: ¬qQ s.2.2.1 s.1≠0)(h2:qQ s.2.2.2.1 s.2.1≠0):qQ s.2.2.2.1 s.2.1=jO s:=by rw[jO,if_neg h,if_pos h2]
theorem Xe(h: ¬qQ s.2.2.1 s.1≠0)(h2: ¬qQ s.2.2.2.1 s.2.1≠0)(h3:((s.2.2.2.2.length:Nat):Int)≠(s.2.2.1.length:Int) -s.1-1):1=jO s:=by rw[jO,if_neg h,if_neg h2,if_pos h3]
theorem Xf(h: ¬qQ s.2.2.1 s.1≠0)(h2: ¬qQ s.2.2.2.1 s.2.1≠0)(h3: ¬((s.2.2.2.2.length:Nat):Int)≠(s.2.2.1.length:Int) -s.1-1)(h4:rowB s s.2.2.2.2.length=false):1=jO s:=by rw[jO,if_neg h,if_neg h2,if_neg h3,if_pos h4]
theorem Xg(h: ¬qQ s.2.2.1 s.1≠0)(h2: ¬qQ s.2.2.2.1 s.2.1≠0)(h3: ¬((s.2.2.2.2.length:Nat):Int)≠(s.2.2.1.length:Int) -s.1-1)(h4:rowB s s.2.2.2.2.length=true):0=jO s:=by rw[jO,if_neg h,if_neg h2,if_neg h3,if_neg (by rw[h4];simp)]
theorem gtD{α:Type}{l:List α}{i:Nat}{d:α}(h:i<l.length):l.getD i d=l[i]:=by rw[q53,q57 h];rfl
theorem posS{i j:Nat}(h:PosS s)(hi:i<s.2.2.2.2.length)(hj:j<(s.2.2.2.2.getD i []).length): ¬qO ((s.2.2.2.2.getD i []).getD j ((0,0,0),0)).2<=0:=by
 have e1:s.2.2.2.2.getD i []=s.2.2.2.2[i]:=gtD hi;have e2:(s.2.2.2.2.getD i []).getD j ((0,0,0),0)=(s.2.2.2.2.getD i [])[j]:=gtD hj;have h1:s.2.2.2.2.getD i []∈s.2.2.2.2:=by rw[e1];exact List.getElem_mem _
 have h2:(s.2.2.2.2.getD i []).getD j ((0,0,0),0)∈s.2.2.2.2.getD i []:=by rw[e2];exact List.getElem_mem _
 have h3:=h _ h1 _ h2;intro hs;generalize((s.2.2.2.2.getD i []).getD j ((0,0,0),0)).2=x at hs h3;unfold qO at hs;split at hs
 .rename_i e;have e0:=wF e;subst e0;exact absurd h3 (by decide)
 .split at hs
  .rename_i e;have:=Rat.num_nonneg.2 (Rat.le_of_lt h3);omega
  .exact absurd hs (by decide)
theorem Gq{l:List (List Pole)}{m:Nat}(h: ∀x∈l,x.length<=m)(i:Nat):(l.getD i []).length<=m:=by
 by_cases hi:i<l.length
 .have e1:l.getD i []=l[i]:=gtD hi
  rw[e1];exact h _ (List.getElem_mem _)
 .rw[show l.getD i []=[] by simp[List.getD,hi]];exact q64 _
end
def lenS(l:List (List Rat)):Nat->Nat
 |0=>0
 |n+1=>lenS l n+(l.getD n []).length
def catN(l:List (List Rat)):Nat->List Rat
 |0=>[]
 |n+1=>catN l n++l.getD n []
theorem E7(l:List (List Rat)): ∀n,(catN l n).length=lenS l n
 |0=>rfl
 |n+1=>by rw[catN,q5b,E7 l n];rfl
theorem q0M{l:List (List Rat)}{b:Bd}(h:Bnd (.sl (.sl .rat)) b l): ∀v∈catN l l.length,Bnd .rat (.n b.mx) v:=by
 have key: ∀n,n<=l.length-> ∀v∈catN l n,Bnd .rat (.n b.mx) v:=by
  intro n
  induction n with
  |zero=>intro _ v hv;cases hv
  |succ n ih=>
   intro hn v hv;rcases q5i.1 hv with hv|hv
   .exact ih (by omega) v hv
   .have e:l.getD n []=l[n]:=gtD (by omega)
    have h1:=h.sl.2 (l.getD n []) (by rw[e];exact List.getElem_mem _);have h2:=h1.slm.2 v hv;have:=b.e_mx;exact jx h2 (by omega)
 exact key _ (q5H _)
theorem QO{a c:List Rat}(h:a.length+c.length<=64): ∀i,lenS [a,c] i<=64
 |0=>q64 _
 |1=>by simp[lenS];omega
 |2=>by simp[lenS];omega
 |n+3=>by
  have:=QO h (n+2);rw[lenS];simpa using this
def SmS(s:Surf):Prop:=s.2.2.2.2.length<=32/\ ∀i,(s.2.2.2.2.getD i []).length<=32
def numR(s:Surf):Nat->List Rat
 |0=>catN [s.2.2.1,s.2.2.2.1] 2
 |n+1=>numR s n++numN (s.2.2.2.2.getD n []) (s.2.2.2.2.getD n []).length
theorem Ho{s:Surf}(h:SmS s)(hk:s.2.2.1.length+s.2.2.2.1.length<=64): ∀n,(numR s n).length<=64+128*n
 |0=>by rw[numR,E7];exact QO hk 2
 |n+1=>by
  have h1:=Ho h hk n;have h2:=h.2 n;rw[numR,q5b,Hn];omega
theorem q1y{s:Surf}(hk:s.2.2.1.length+s.2.2.2.1.length<=64)(h:SmS s):(numR s s.2.2.2.2.length).length<=4194304:=by
 have h1:=Ho h hk s.2.2.2.2.length;have:=h.1;omega
theorem SX{s:Surf}{b:Bd}(h:Bnd IY b s): ∀n,∀v∈numR s n,Bnd .rat (.n b.mx) v:=by
 have h1:=h.pr.2.pr.2.pr;have h2:=h1.1.slm;have h3:=h1.2.pr.1.slm;have h4:=h1.2.pr.2.sl;have m1:=b.r_mx;have m2:=b.r.r_mx;have m3:=b.r.r.l_mx;have m4:=b.r.r.r_mx;have m5:=b.r.r.r.l_mx;have m6:=b.r.r.r.r_mx;have m7:=b.r.r.r.r.e_mx;have m8:=b.r.r.r.r.e.e_mx
 intro n
 induction n with
 |zero=>
  intro v hv;rcases q5i.1 hv with hv|hv
  .rcases q5i.1 hv with hv|hv
   .cases hv
   .exact jx (h2.2 v hv) (by omega)
  .exact jx (h3.2 v hv) (by omega)
 |succ n ih=>
  intro v hv;rcases q5i.1 hv with hv|hv
  .exact ih v hv
  .by_cases hn:n<s.2.2.2.2.length
   .have e:s.2.2.2.2.getD n []=s.2.2.2.2[n]:=gtD hn
    have h5:=h4.2 (s.2.2.2.2.getD n []) (by rw[e];exact List.getElem_mem _);exact jx (SW h5.sl.2 _ (q5H _) v hv) (by omega)
   .rw[show s.2.2.2.2.getD n []=[] by simp[List.getD,hn]]at hv;cases hv
theorem SZ{s:Surf}{b:Bd}(h:Bnd IY b s)(hb:b.mx<=2047:=by decide)(hf:0<=fidx (λj=>decide (2048<v7 ((numR s s.2.2.2.2.length).getD j 0))) 0 (numR s s.2.2.2.2.length).length):False:=by
 obtain⟨j,_,h2,h3⟩:=G3.1 hf;have h3:=of_decide_eq_true h3;have:=LZ (OU (SX h s.2.2.2.2.length) j);omega
def rcS(s:Surf):Bool:=decide (((s.2.2.2.2.length:Nat):Int)=(s.2.2.1.length:Int) -s.1-1)&&!decide (0<=fidx (λj=>decide (¬vj s (s.2.2.2.2.getD j []))) 0 s.2.2.2.2.length)
theorem Np{s:Surf}: ∀{n:Nat},rowB s n=true↔ ∀j,j<n->vj s (s.2.2.2.2.getD j [])
 |0=>⟨λ_ j h=>by omega,λ_=>rfl⟩
 |n+1=>by
  rw[rowB,q4R,Np (n:=n),decide_eq_true_iff]
  exact⟨λ⟨h1,h2⟩ j hj=>by
   by_cases e:j=n
   .rw[e];exact h2
   .exact h1 j (by omega),λh=>⟨λj hj=>h j (by omega),h n (by omega)⟩⟩
theorem PA{s:Surf}:rcS s=true↔((s.2.2.2.2.length:Nat):Int)=(s.2.2.1.length:Int) -s.1-1/\rowB s s.2.2.2.2.length=true:=by
 unfold rcS;rw[q4R,decide_eq_true_iff,Np,q4T,decide_eq_false_iff_not,G3];refine and_congr_right λ_=>⟨λh j hj=>Classical.byContradiction λhw=>h ⟨j,q64 _,by omega,decide_eq_true hw⟩,λh⟨j,_,h2,h3⟩=>of_decide_eq_true h3 (h j (by omega))⟩
theorem q4i{s:Surf}(h:((s.2.2.2.2.length:Nat):Int)=(s.2.2.1.length:Int) -s.1-1):(!decide (0<=fidx (λj=>decide (¬vj s (s.2.2.2.2.getD j []))) 0 s.2.2.2.2.length))=rcS s:=by
 rw[rcS,decide_eq_true h,Bool.true_and]
theorem q4j{s:Surf}(h: ¬((s.2.2.2.2.length:Nat):Int)=(s.2.2.1.length:Int) -s.1-1):false=rcS s:=by
 rw[rcS,decide_eq_false h,Bool.false_and]
section
variable {s:Surf}
theorem q3o(h: ¬qQ s.2.2.1 s.1≠0)(h2: ¬qQ s.2.2.2.1 s.2.1≠0)(h3:(!(rcS s))=true):1=jO s:=by
 by_cases e:((s.2.2.2.2.length:Nat):Int)=(s.2.2.1.length:Int) -s.1-1
 .refine Xf h h2 (by simpa using e) ?_
  cases hb:rowB s s.2.2.2.2.length with
  |false=>rfl
  |true=>rw[PA.2 ⟨e,hb⟩]at h3;cases h3
 .exact Xe h h2 e
theorem q3p(h: ¬qQ s.2.2.1 s.1≠0)(h2: ¬qQ s.2.2.2.1 s.2.1≠0)(h3: ¬(!(rcS s))=true):0=jO s:=by
 obtain⟨e,hb⟩:=PA.1 (by simpa using h3);exact Xg h h2 (by simpa using e) hb
theorem posW{i:Nat}(h:PosS s)(hi:i<s.2.2.2.2.length)(hf:0<=fidx (λj=>decide (qO ((s.2.2.2.2.getD i []).getD j ((0,(0,0)),0)).2<=0)) 0 (s.2.2.2.2.getD i []).length):False:=by
 obtain⟨j,_,h2,h3⟩:=G3.1 hf;exact posS h hi (by omega) (of_decide_eq_true h3)
end
end
section
def sU(g:Int)(s:qL):Int:=1+qa s g
def sV(g:Int)(s:qL):Int:=1+qa (q9 s) g
def sKU(g inner:Int)(s:qL):List Rat:=jg (1+qa s g) inner (q9 (q9 s))
def sD2(g inner:Int)(s:qL):qL:=jE (1+qa s g) inner (q9 (q9 s))
def sKV(g inner:Int)(s:qL):List Rat:=jg (1+qa (q9 s) g) inner (sD2 g inner s)
def sD3(g inner:Int)(s:qL):qL:=jE (1+qa (q9 s) g) inner (sD2 g inner s)
def sfU(g inner:Int)(s:qL):Nat:=((sKU g inner s).length-(1+qa s g) -1).toNat
def sfV(g inner:Int)(s:qL):Nat:=((sKV g inner s).length-(1+qa (q9 s) g) -1).toNat
def sfW(g inner:Int)(s:qL):Bool:=decide (qa (sD3 g inner s) 3=2)
def twP(w:Bool)(i j:Nat)(p:Pole):Pole:=
 if w=true then p else(((((2*i:Nat):Int):Rat)+p.1.1*(((1:Int):Rat)/((8:Int):Rat)),(((2*j:Nat):Int):Rat)+p.1.2.1*(((1:Int):Rat)/((8:Int):Rat)),p.1.2.2*(((1:Int):Rat)/((4:Int):Rat))),p.2)
def rwN(w:Bool)(i:Nat)(u:qL):Nat->List Pole×qL
 |0=>([],u)
 |n+1=>((rwN w i u n).1++[twP w i n (jz (rwN w i u n).2 false)],AK (rwN w i u n).2)
def sfN(g inner:Int)(s:qL):Nat->List (List Pole)×qL
 |0=>([],q9 (sD3 g inner s))
 |n+1=>((sfN g inner s n).1++[(rwN (sfW g inner s) n (sfN g inner s n).2 (sfV g inner s)).1],(rwN (sfW g inner s) n (sfN g inner s n).2 (sfV g inner s)).2)
def Ad(g inner:Int)(s:qL):Surf:=(sU g s,sV g s,sKU g inner s,sKV g inner s,(sfN g inner s (sfU g inner s)).1)
def vI(g inner:Int)(s:qL):qL:=(sfN g inner s (sfU g inner s)).2
abbrev bSd:Bd:= .p (.n 6) (.p (.n 6) (.p (.s 16 (.n 6)) (.p (.s 16 (.n 6)) (.s 16 (.s 16 (zq 16))))))
theorem Gs(w:Bool)(i:Nat)(u:qL): ∀n,(rwN w i u n).1.length=n
 |0=>rfl
 |n+1=>by simp only[rwN,q5b,Gs w i u n,q5c,q5f]
theorem Gt(g inner:Int)(s:qL): ∀n,(sfN g inner s n).1.length=n
 |0=>rfl
 |n+1=>by simp only[sfN,q5b,Gt g inner s n,q5c,q5f]
theorem XD(g inner:Int)(s:qL):sfU g inner s=(((jg (1+qa s g) inner (q9 (q9 s))).length:Int) -(1+qa s g) -1).toNat:=rfl
theorem q4v(g inner:Int)(s:qL):sfV g inner s=(((jg (1+qa (q9 s) g) inner (jE (1+qa s g) inner (q9 (q9 s)))).length:Int) -(1+qa (q9 s) g) -1).toNat:=rfl
section
variable {g inner:Int} {s u v:qL} {l:List (List Pole)} {r:List Pole} {i j:Nat}
theorem q4l(h:(r,v)=rwN (sfW g inner s) i u j)(hw: ¬qa (jE (1+qa (q9 s) g) inner (jE (1+qa s g) inner (q9 (q9 s)))) 3=2):
  (r++[(((((2*i:Nat):Int):Rat)+(jz v false).1.1*(((1:Int):Rat)/((8:Int):Rat)),(((2*j:Nat):Int):Rat)+(jz v false).1.2.1*(((1:Int):Rat)/((8:Int):Rat)),(jz v false).1.2.2*(((1:Int):Rat)/((4:Int):Rat))),(jz v false).2)],AK v)=rwN (sfW g inner s) i u (j+1):=by
 have e:sfW g inner s=false:=decide_eq_false hw;rw[e]at h⊢;rw[rwN,<-h,twP,if_neg (by decide)]
theorem q4m(h:(r,v)=rwN (sfW g inner s) i u j)(hw: ¬ ¬qa (jE (1+qa (q9 s) g) inner (jE (1+qa s g) inner (q9 (q9 s)))) 3=2):
  (r++[jz v false],AK v)=rwN (sfW g inner s) i u (j+1):=by
 have e:sfW g inner s=true:=decide_eq_true (Decidable.of_not_not hw);rw[e]at h⊢;rw[rwN,<-h,twP,if_pos rfl]
theorem q4u(h:(l,u)=sfN g inner s i)(h2:(r,v)=rwN (sfW g inner s) i u j)(hj:j=sfV g inner s):(l++[r],v)=sfN g inner s (i+1):=by
 subst hj;simp only[sfN,<-h,<-h2]
theorem TH(h:(l,u)=sfN g inner s i)(hi:i=sfU g inner s):u=vI g inner s/\(1+qa s g,1+qa (q9 s) g,jg (1+qa s g) inner (q9 (q9 s)),jg (1+qa (q9 s) g) inner (jE (1+qa s g) inner (q9 (q9 s))),l)=Ad g inner s:=by
 subst hi;unfold vI Ad sU sV sKU sKV sD2;rw[<-h];exact⟨rfl,rfl⟩
end
theorem q4I{w:Bool}{i j:Nat}{p:Pole}(h:Bnd zZ (zq 5) p)(hi:i<=20)(hj:j<=20):Bnd zZ (zq 16) (twP w i j p):=by
 have h1:=h.pr;have hp:=h1.1;have q8:Bnd .rat (.n 4) (((1:Int):Rat)/((8:Int):Rat)):=jx (Am (n:=1) (d:=8) (b:=1) (c:=8) (by decide) (by decide)) (by decide);have q4:Bnd .rat (.n 4) (((1:Int):Rat)/((4:Int):Rat)):=jx (Am (n:=1) (d:=4) (b:=1) (c:=4) (by decide) (by decide)) (by decide);have z: ∀k:Nat,k<=20->Bnd .rat (.n 6) ((((2*k:Nat):Int):Rat)):=λk hk=>jx (DB (v:=((2*k:Nat):Int)) (b:=40) (by omega)) (by decide)
 unfold twP;split
 .exact⟨⟨jx hp.1 (by decide),jx hp.2.1 (by decide),jx hp.2.2 (by decide)⟩,jx h1.2 (by decide)⟩
 .exact⟨⟨jx (X2 (z i hi) (Gd hp.1 q8)) (by decide),jx (X2 (z j hj) (Gd hp.2.1 q8)) (by decide),jx (Gd hp.2.2 q4) (by decide)⟩,jx h1.2 (by decide)⟩
theorem TD{w:Bool}{i:Nat}{u:qL}(hi:i<=20): ∀n,n<=20-> ∀x∈(rwN w i u n).1,Bnd zZ (zq 16) x
 |0,_,x,h=>by cases h
 |n+1,hn,x,h=>by
  simp only[rwN]at h;rcases q5i.1 h with h|h
  .exact TD hi n (by omega) x h
  .rw[q5p.1 h];exact q4I (Pr _ _) hi (by omega)
theorem q4n{w:Bool}{i:Nat}{u:qL}{b:Bd}(h:Bnd jM (.p b.l (.n (max b.r.nb b.l.len))) u)(n:Nat):Bnd jM (.p b.l (.n (max b.r.nb b.l.len))) (rwN w i u n).2:=by
 induction n with
 |zero=>exact h
 |succ n ih=>
  have e:(rwN w i u (n+1)).2=AK (rwN w i u n).2:=by simp only[rwN]
  rw[e];generalize(rwN w i u n).2=y at*;exact VU ih
theorem q4t{g inner:Int}{s:qL}{b:Bd}(h:Bnd jM (.p b.l (.n (max b.r.nb b.l.len))) (q9 (sD3 g inner s)))(n:Nat):Bnd jM (.p b.l (.n (max b.r.nb b.l.len))) (sfN g inner s n).2:=by
 induction n with
 |zero=>
  have e:(sfN g inner s 0).2=q9 (sD3 g inner s):=by simp only[sfN]
  rw[e];exact h
 |succ n ih=>
  have e:(sfN g inner s (n+1)).2=(rwN (sfW g inner s) n (sfN g inner s n).2 (sfV g inner s)).2:=by simp only[sfN]
  rw[e];generalize(sfN g inner s n).2=y at*;exact q4n ih _
theorem P4(d:Int): ∀(n:Nat)(x:KnT),(knN d n x).1.length=x.1.length+n
 |0,x=>rfl
 |n+1,x=>by rw[knN,P4 d n,P5];omega
theorem Er{d inner:Int}(s:qL):(jg d inner s).length=(d+1).toNat+(qa (q9 s) (inner+1)).toNat+(d+1).toNat:=by
 unfold jg knR;rw[q5b,List.length_replicate,P4];unfold kn0;rw[List.length_replicate]
section
variable {g inner:Int} (s:qL) (h1:1<=g) (h5:g<=5) (h0:0<=inner) (h4:inner<=4)
include h1 h5 h0 h4
theorem Ra:Bnd (.sl .rat) (.s 16 (.n 6)) (sKU g inner s):=Hf _ (by have:=va s (m:=g) (by omega);omega) h0 h4
theorem Rb:Bnd (.sl .rat) (.s 16 (.n 6)) (sKV g inner s):=Hf _ (by have:=va (q9 s) (m:=g) (by omega);omega) h0 h4
theorem XE:1<=sfU g inner s/\sfU g inner s<=16:=by
 have a:=va s (m:=g) (by omega);have b:=(Ra s h1 h5 h0 h4).1;have c:=Er (d:=1+qa s g) (inner:=inner) (q9 (q9 s));rw[XD];unfold sKU at b;omega
theorem XF:2<=sfV g inner s/\sfV g inner s<=16:=by
 have a:=va (q9 s) (m:=g) (by omega);have b:=(Rb s h1 h5 h0 h4).1;have c:=Er (d:=1+qa (q9 s) g) (inner:=inner) (sD2 g inner s);unfold sfV sKV;unfold sKV at b;omega
theorem PT:Bnd IY bSd (Ad g inner s):=by
 have a:=va s (m:=g) (by omega);have a2:=va (q9 s) (m:=g) (by omega);have hu:=XE s h1 h5 h0 h4;have hv:=XF s h1 h5 h0 h4;refine⟨show Int.natAbs (1+qa s g)<=6 by omega,show Int.natAbs (1+qa (q9 s) g)<=6 by omega,Ra s h1 h5 h0 h4,Rb s h1 h5 h0 h4,?_,?_⟩
 .show(sfN g inner s (sfU g inner s)).1.length<=16
  rw[Gt];exact hu.2
 .have key: ∀n,n<=16-> ∀x∈(sfN g inner s n).1,Bnd (.sl zZ) (.s 16 (zq 16)) x:=by
   intro n
   induction n with
   |zero=>intro _ x hx;cases hx
   |succ n ih=>
    intro hn x hx;simp only[sfN]at hx;rcases q5i.1 hx with hx|hx
    .exact ih (by omega) x hx
    .rw[q5p.1 hx]
     exact⟨by rw[Gs];exact hv.2,λy hy=>TD (by omega) _ (by omega) y hy⟩
  exact key _ hu.2
omit h1 h5 h0 h4 in
theorem KU(s:qL)(f:Bool):0<(jz s f).2:=by
 have h:=va (vK s) (m:=3) (by omega);show(0:Rat)<((1+Int.tmod (qa (vK s) 3) 3:Int):Rat);rw[Int.tmod_eq_emod_of_nonneg h.1];have:(0:Int)<1+qa (vK s) 3%3:=by omega
 exact_mod_cast this
omit h1 h5 h0 h4 in
theorem ZX(n:Nat): ∀x∈(sfN g inner s n).1,x.length=sfV g inner s/\ ∀p∈x,0<p.2:=by
 have hr: ∀(w:Bool)(i:Nat)(u:qL)(m:Nat),∀p∈(rwN w i u m).1,0<p.2:=by
  intro w i u m
  induction m with
  |zero=>intro p hp;cases hp
  |succ m ih=>
   intro p hp;simp only[rwN]at hp;rcases q5i.1 hp with hp|hp
   .exact ih p hp
   .rw[q5p.1 hp]
    unfold twP;split
    .exact KU _ _
    .exact KU (rwN w i u m).2 false
 induction n with
 |zero=>intro x hx;cases hx
 |succ n ih=>
  intro x hx;simp only[sfN]at hx;rcases q5i.1 hx with hx|hx
  .exact ih x hx
  .rw[q5p.1 hx]
   exact⟨Gs _ _ _ _,hr _ _ _ _⟩
end
theorem q0e{g inner:Int}{s:qL}{b:Bd}(h:Bnd jM b s):Bnd jM (.p b.l (.n (max b.r.nb b.l.len))) (vI g inner s):=
 q4t (vr (b:=b) (I9 (He (I9 (He (I9 (B1 (B1 (b:=b) h)))))))) _
end
abbrev Ym:FB:=⟨7,(.pr (.sl (.int .i64)) (.nat .i64)),(.p (.s 1048576 (.n 9223372036854775808)) (.n 1048576)),[(.int .i64),(.int .i64)],[(.n 8),(.n 8)],λs z=>(λ(g:Int)(inner:Int)=>[(1:Int)<=g,g<=(5:Int),(0:Int)<=inner,inner<=(4:Int)]) z.1 z.2,λtb b s z=>(λ(g:Int)(inner:Int)=> .c (.agg [.dt IY bSd (Ad g inner s)])) z.1 z.2,λs z=>(λ(g:Int)(inner:Int)=>vI g inner s) z.1 z.2,λtb b=> .p tb.l (.n (max tb.r.nb tb.l.len))⟩
theorem Yn:Ym.OK Tryz.prog:=mkB' hmix 103 Tryz.func7 rfl rfl (by decide) [(9,.b C4),(19,.b UA),(20,.b Yd),(21,.c Uf),(22,.c J7),(23,.c q3h),(24,.c K8)] (λ_=>rfl) (λ_ _=>rfl) (λ_ _ _ _=>rfl) (λ(s:List Int×Nat)(g:Int)(inner:Int) tb b hs hx hp=>⟨wz (PT s (hp _ (by simp)) (hp _ (by simp)) (hp _ (by simp)) (hp _ (by simp))),q0e hs⟩) (λ(s:List Int×Nat)(g:Int)(inner:Int) hs hx hp=>by
 have hx0:Int.natAbs g<=8:=hx.1;have hx1:Int.natAbs inner<=8:=hx.2;have hp0:(1:Int)<=g:=hp _ (q5l);have hp1:g<=(5:Int):=hp _ (q5k _ (q5l));have hp2:(0:Int)<=inner:=hp _ (q5k _ (q5k _ (q5l)));have hp3:inner<=(4:Int):=hp _ (q5k _ (q5k _ (q5k _ (q5l))))
 refine⟨.loop [.s 9 (.nat .i64) (.n 20),.ex (gboX 7 90001 [(.dt (.int .i64) (.n 9) (1+(qa s g))),(.dt (.int .i64) (.n 9) (1+(qa (q9 s) g))),(.dt (.sl .rat) (.s 16 (.n 6)) (jg (1+(qa s g)) inner (q9 (q9 s)))),(.dt (.sl .rat) (.s 16 (.n 6)) (jg (1+(qa (q9 s) g)) inner (jE (1+(qa s g)) inner (q9 (q9 s)))))] [] (.sl (.pr (.pr .rat (.pr .rat .rat)) .rat)) (.s 16 (.p (.p (.n 16) (.p (.n 16) (.n 16))) (.n 16))) 1048576),.r 100000 (.pr (.sl (.int .i64)) (.nat .i64)) (.p (.s 1048576 (.n 9223372036854775808)) (.n 1048576))] (λ((i,l,u):Nat×(List (List ((Rat×Rat×Rat)×Rat)))×List Int×Nat)=>(l,u)=sfN g inner s i/\i<=sfU g inner s) (λ((i,l,u):Nat×(List (List ((Rat×Rat×Rat)×Rat)))×List Int×Nat)=>sfU g inner s-i) (λ((i,l,u):Nat×(List (List ((Rat×Rat×Rat)×Rat)))×List Int×Nat)=> .cond (.loop [.s 11 (.nat .i64) (.n 20),.g 10 90002 (.pr (.pr .rat (.pr .rat .rat)) .rat) (.p (.p (.n 16) (.p (.n 16) (.n 16))) (.n 16)) 16,.r 100000 (.pr (.sl (.int .i64)) (.nat .i64)) (.p (.s 1048576 (.n 9223372036854775808)) (.n 1048576))] (λ((j,r,v):Nat×(List ((Rat×Rat×Rat)×Rat))×List Int×Nat)=>(r,v)=rwN (sfW g inner s) i u j/\j<=sfV g inner s) (λ((j,r,v):Nat×(List ((Rat×Rat×Rat)×Rat))×List Int×Nat)=>sfV g inner s-j) (λ((j,r,v):Nat×(List ((Rat×Rat×Rat)×Rat))×List Int×Nat)=> .cond (.cond (.h 16 2 (.mk (.im (.pr (.pr .rat (.pr .rat .rat)) .rat) (.p (.p (.n 16) (.p (.n 16) (.n 16))) (.n 16)))) (.nil)) (.h 16 2 (.mk (.im (.pr (.pr .rat (.pr .rat .rat)) .rat) (.p (.p (.n 16) (.p (.n 16) (.n 16))) (.n 16)))) (.nil))) (.pre 17 (.frz 90002 true [10]) (.h 17 1 (.ext Ic) (.h 17 3 (.mk (.im (.sl (.pr (.pr .rat (.pr .rat .rat)) .rat)) (.s 16 (.p (.p (.n 16) (.p (.n 16) (.n 16))) (.n 16))))) (.nil)))))) (.pre 18 (.frz 90001 true []) (.nil))),kcast (by kernel_rfl) (I (?_:(0:Int)<g) (I (?_:(0:Int)<g) (have hdr:=(va s (m:=g) (by omega));have hdr2:=(va (q9 s) (m:=g) (by omega));I (?_:1<=1+(qa s g)) (I (?_:1+(qa s g)<=5) (I (?_:0<=inner) (I (?_:inner<=4) (I (?_:1<=1+(qa (q9 s) g)) (I (?_:1+(qa (q9 s) g)<=5) (I (?_:0<=inner) (I (?_:inner<=4) (I (?_:(0:Int)<3) (I (rfl:([(.dt (.int .i64) (.n 9) (1+(qa s g))),(.dt (.int .i64) (.n 9) (1+(qa (q9 s) g))),(.dt (.sl .rat) (.s 16 (.n 6)) (jg (1+(qa s g)) inner (q9 (q9 s)))),(.dt (.sl .rat) (.s 16 (.n 6)) (jg (1+(qa (q9 s) g)) inner (jE (1+(qa s g)) inner (q9 (q9 s)))))]:List WA)=[(.dt (.int .i64) (.n 9) (1+(qa s g))),(.dt (.int .i64) (.n 9) (1+(qa (q9 s) g))),(.dt (.sl .rat) (.s 16 (.n 6)) (jg (1+(qa s g)) inner (q9 (q9 s)))),(.dt (.sl .rat) (.s 16 (.n 6)) (jg (1+(qa (q9 s) g)) inner (jE (1+(qa s g)) inner (q9 (q9 s)))))]) (I (rfl:([]:List WA)=[]) (I (rfl:0=([]:List (List ((Rat×Rat×Rat)×Rat))).length) (I (⟨rfl,q64 _⟩:(([]:List (List ((Rat×Rat×Rat)×Rat))),q9 (jE (1+(qa (q9 s) g)) inner (jE (1+(qa s g)) inner (q9 (q9 s)))))=sfN g inner s 0/\0<=sfU g inner s) (λ(i:Nat)(l:List (List ((Rat×Rat×Rat)×Rat)))(u:List Int×Nat)(hb1:HB [.s 9 (.nat .i64) (.n 20),.ex (gboX 7 90001 [(.dt (.int .i64) (.n 9) (1+(qa s g))),(.dt (.int .i64) (.n 9) (1+(qa (q9 s) g))),(.dt (.sl .rat) (.s 16 (.n 6)) (jg (1+(qa s g)) inner (q9 (q9 s)))),(.dt (.sl .rat) (.s 16 (.n 6)) (jg (1+(qa (q9 s) g)) inner (jE (1+(qa s g)) inner (q9 (q9 s)))))] [] (.sl (.pr (.pr .rat (.pr .rat .rat)) .rat)) (.s 16 (.p (.p (.n 16) (.p (.n 16) (.n 16))) (.n 16))) 1048576),.r 100000 (.pr (.sl (.int .i64)) (.nat .i64)) (.p (.s 1048576 (.n 9223372036854775808)) (.n 1048576))] (i,l,u))(hI:(l,u)=sfN g inner s i/\i<=sfU g inner s)=>have hv11:=(show i<=20 from hb1.1);have hv12:=(show l.length<=1048576 from hb1.2.1.1.1);have hsU:=(XD g inner s);have hsV:=(q4v g inner s);have hku:=(show(jg (1+qa s g) inner (q9 (q9 s))).length<=16 from(Ra s hp0 hp1 hp2 hp3).1);have hkv:=(show(jg (1+qa (q9 s) g) inner (jE (1+qa s g) inner (q9 (q9 s)))).length<=16 from(Rb s hp0 hp1 hp2 hp3).1);have hll:=(show l.length=i by have:=Gt g inner s i;rw[<-hI.1]at this;exact this);Sp ((i:Int)<((((jg (1+(qa s g)) inner (q9 (q9 s))).length:Nat):Int) -(1+(qa s g))) -1) (λh2=>I (rfl:0=([]:List ((Rat×Rat×Rat)×Rat)).length) (I (⟨rfl,q64 _⟩:(([]:List ((Rat×Rat×Rat)×Rat)),u)=rwN (sfW g inner s) i u 0/\0<=sfV g inner s) (λ(j:Nat)(r:List ((Rat×Rat×Rat)×Rat))(v:List Int×Nat)(hb3:HB [.s 11 (.nat .i64) (.n 20),.g 10 90002 (.pr (.pr .rat (.pr .rat .rat)) .rat) (.p (.p (.n 16) (.p (.n 16) (.n 16))) (.n 16)) 16,.r 100000 (.pr (.sl (.int .i64)) (.nat .i64)) (.p (.s 1048576 (.n 9223372036854775808)) (.n 1048576))] (j,r,v))(hJ:(r,v)=rwN (sfW g inner s) i u j/\j<=sfV g inner s)=>have hv8:=(show j<=20 from hb3.1);have hv9:=(show r.length<=16 from hb3.2.1.1);have hrl:=(show r.length=j by have:=Gs (sfW g inner s) i u j;rw[<-hJ.1]at this;exact this);Sp ((j:Int)<((((jg (1+(qa (q9 s) g)) inner (jE (1+(qa s g)) inner (q9 (q9 s)))).length:Nat):Int) -(1+(qa (q9 s) g))) -1) (λh4=>Sp (¬(qa (jE (1+(qa (q9 s) g)) inner (jE (1+(qa s g)) inner (q9 (q9 s)))) 3=2)) (λh5=>I (?_:r.length=r.length) (I (show(j+1)<=20 by omega:Bnd (.nat .i64) (.n 20) (j+1)) (I (by(try simp only[q5b,q5c,q5f])<;>omega:r.length+[((((((2*i:Nat):Int):Int):Rat)+((((jz v false).1).1)*(((1:Int):Rat)/((8:Int):Rat))),((((2*j:Nat):Int):Int):Rat)+(((((jz v false).1).2).1)*(((1:Int):Rat)/((8:Int):Rat))),((((jz v false).1).2).2)*(((1:Int):Rat)/((4:Int):Rat))),(jz v false).2)].length=(r++[((((((2*i:Nat):Int):Int):Rat)+((((jz v false).1).1)*(((1:Int):Rat)/((8:Int):Rat))),((((2*j:Nat):Int):Int):Rat)+(((((jz v false).1).2).1)*(((1:Int):Rat)/((8:Int):Rat))),((((jz v false).1).2).2)*(((1:Int):Rat)/((4:Int):Rat))),(jz v false).2)]).length) (I (by(try simp only[q5b,q5c,q5f])<;>omega:r.length+[((((((2*i:Nat):Int):Int):Rat)+((((jz v false).1).1)*(((1:Int):Rat)/((8:Int):Rat))),((((2*j:Nat):Int):Int):Rat)+(((((jz v false).1).2).1)*(((1:Int):Rat)/((8:Int):Rat))),((((jz v false).1).2).2)*(((1:Int):Rat)/((4:Int):Rat))),(jz v false).2)].length<=16) (q4P (⟨q4l hJ.1 h5,by omega⟩:(r++[((((((2*i:Nat):Int):Int):Rat)+((((jz v false).1).1)*(((1:Int):Rat)/((8:Int):Rat))),((((2*j:Nat):Int):Int):Rat)+(((((jz v false).1).2).1)*(((1:Int):Rat)/((8:Int):Rat))),((((jz v false).1).2).2)*(((1:Int):Rat)/((4:Int):Rat))),(jz v false).2)],AK v)=rwN (sfW g inner s) i u (j+1)/\(j+1)<=sfV g inner s) (?_:sfV g inner s-(j+1)<sfV g inner s-j)))))) (λh6=>I (?_:r.length=r.length) (I (show(j+1)<=20 by omega:Bnd (.nat .i64) (.n 20) (j+1)) (I (by(try simp only[q5b,q5c,q5f])<;>omega:r.length+[jz v false].length=(r++[jz v false]).length) (I (by(try simp only[q5b,q5c,q5f])<;>omega:r.length+[jz v false].length<=16) (q4P (⟨q4m hJ.1 h6,by omega⟩:(r++[jz v false],AK v)=rwN (sfW g inner s) i u (j+1)/\(j+1)<=sfV g inner s) (?_:sfV g inner s-(j+1)<sfV g inner s-j))))))) (λh7=>I (?_:r.length=r.length) (I (?_:l.length=l.length) (I (show(i+1)<=20 by omega:Bnd (.nat .i64) (.n 20) (i+1)) (I (rfl:([(.dt (.int .i64) (.n 9) (1+(qa s g))),(.dt (.int .i64) (.n 9) (1+(qa (q9 s) g))),(.dt (.sl .rat) (.s 16 (.n 6)) (jg (1+(qa s g)) inner (q9 (q9 s)))),(.dt (.sl .rat) (.s 16 (.n 6)) (jg (1+(qa (q9 s) g)) inner (jE (1+(qa s g)) inner (q9 (q9 s)))))]:List WA)=[(.dt (.int .i64) (.n 9) (1+(qa s g))),(.dt (.int .i64) (.n 9) (1+(qa (q9 s) g))),(.dt (.sl .rat) (.s 16 (.n 6)) (jg (1+(qa s g)) inner (q9 (q9 s)))),(.dt (.sl .rat) (.s 16 (.n 6)) (jg (1+(qa (q9 s) g)) inner (jE (1+(qa s g)) inner (q9 (q9 s)))))]) (I (rfl:([]:List WA)=[]) (I (by(try simp only[q5b,q5c,q5f])<;>omega:l.length+[r].length=(l++[r]).length) (I (by(try simp only[q5b,q5c,q5f])<;>omega:l.length+[r].length<=1048576) (q4P (⟨q4u hI.1 hJ.1 (by omega),by omega⟩:(l++[r],v)=sfN g inner s (i+1)/\(i+1)<=sfU g inner s) (?_:sfU g inner s-(i+1)<sfU g inner s-i)))))))))))) (λh10=>I (?_:l.length=l.length) (q4P ((TH hI.1 (by omega)).1:u=vI g inner s) (((TH hI.1 (by omega)).2:(1+(qa s g),1+(qa (q9 s) g),jg (1+(qa s g)) inner (q9 (q9 s)),jg (1+(qa (q9 s) g)) inner (jE (1+(qa s g)) inner (q9 (q9 s))),l)=Ad g inner s))))))))))))))))))))⟩<;>omega)
abbrev Yl:CtrB Tryz.prog:=FB.c Yn
section
def colP(k:Int)(x:Surf):Nat->List Pole
 |0=>[]
 |n+1=>colP k x n++[(x.2.2.2.2.getD n []).getD (if k=0 then 0 else(x.2.2.2.2.getD n []).length-1) ((0,(0,0)),0)]
def zK(x:Surf)(k:Int):BK:=
 if k=1 then(x.2.1,x.2.2.2.1,x.2.2.2.2.getD (x.2.2.2.2.length-1) [])else if k=3 then(x.2.1,x.2.2.2.1,x.2.2.2.2.getD 0 [])else(x.1,x.2.2.1,colP k x x.2.2.2.2.length)
def qJ(x:Surf)(k:Int):BK×Int:=
 if jO x≠0 then((0,[],[]),jO x)else if k<0\/3<k then((0,[],[]),1)else(zK x k,0)
theorem Cp(k:Int)(x:Surf): ∀n,(colP k x n).length=n
 |0=>rfl
 |n+1=>by rw[colP,q5b,Cp k x n];rfl
structure SurfOk (x:Surf):Prop where
 b:Bnd IY bSd x
 p:PosS x
 r:0<x.2.2.2.2.length
 q: ∀i,i<x.2.2.2.2.length->0<(x.2.2.2.2.getD i []).length
section
variable {x:Surf} (h:SurfOk x)
include h
theorem SurfOk.rl:x.2.2.2.2.length<=16:=h.b.2.2.2.2.1
theorem SurfOk.ql(i:Nat):(x.2.2.2.2.getD i []).length<=16:=Gq (λl hl=>(h.b.2.2.2.2.2 l hl).1) i
theorem SurfOk.k:x.2.2.1.length+x.2.2.2.1.length<=64:=by
 have h1:=h.b.2.2.1.1;have h2:=h.b.2.2.2.1.1;omega
theorem SurfOk.m:SmS x:=⟨by have:=h.rl;omega,λi=>by have:=h.ql i;omega⟩
theorem SurfOk.tail:SurfOk (x.1,x.2.1,x.2.2.1,x.2.2.2.1.drop 1,x.2.2.2.2):=by
 refine⟨⟨h.b.1,h.b.2.1,h.b.2.2.1,⟨?_,λy hy=>h.b.2.2.2.1.2 y (List.mem_of_mem_drop hy)⟩,h.b.2.2.2.2⟩,h.p,h.r,h.q⟩;have:=h.b.2.2.2.1.1;show(x.2.2.2.1.drop 1).length<=16;rw[q5d];omega
theorem SurfOk.row(i:Nat):Bnd (.sl zZ) (.s 16 (zq 16)) (x.2.2.2.2.getD i []):=by
 by_cases hi:i<x.2.2.2.2.length
 .rw[gtD hi];exact h.b.2.2.2.2.2 _ (List.getElem_mem _)
 .rw[q53,q58 (by omega)]
  exact⟨q64 _,λy hy=>by cases hy⟩
theorem SurfOk.at(i j:Nat):Bnd zZ (zq 16) ((x.2.2.2.2.getD i []).getD j ((0,(0,0)),0)):=by
 by_cases hj:j<(x.2.2.2.2.getD i []).length
 .rw[gtD hj];exact(h.row i).2 _ (List.getElem_mem _)
 .rw[q53,q58 (by omega)]
  exact⟨⟨Ba _,Ba _,Ba _⟩,Ba _⟩
theorem SurfOk.col(k:Int): ∀n,∀p∈colP k x n,Bnd zZ (zq 16) p
 |0,p,hp=>by cases hp
 |n+1,p,hp=>by
  rw[colP]at hp;rcases q5i.1 hp with hp|hp
  .exact SurfOk.col k n p hp
  .rw[q5p.1 hp];exact h.at _ _
theorem SurfOk.side(k:Int):Bnd CL (.p (.n 6) (.p (.s 16 (.n 6)) (.s 16 (zq 16)))) (zK x k):=by
 unfold zK;split
 .exact⟨h.b.2.1,h.b.2.2.2.1,h.row _⟩
 .split
  .exact⟨h.b.2.1,h.b.2.2.2.1,h.row _⟩
  .exact⟨h.b.1,h.b.2.2.1,by rw[Cp];exact h.rl,h.col k _⟩
theorem SurfOk.sr(k:Int):Bnd CL (.p (.n 6) (.p (.s 16 (.n 6)) (.s 16 (zq 16)))) (qJ x k).1/\(qJ x k).2.natAbs<=8:=by
 have hn:Bnd CL (.p (.n 6) (.p (.s 16 (.n 6)) (.s 16 (zq 16)))) ((0,[],[]):BK):=⟨show Int.natAbs 0<=6 by decide,⟨q64 _,λy hy=>by cases hy⟩,⟨q64 _,λy hy=>by cases hy⟩⟩;unfold qJ;split
 .exact⟨hn,M8 x⟩
 .split
  .exact⟨hn,show Int.natAbs 1<=8 by decide⟩
  .exact⟨h.side k,show Int.natAbs 0<=8 by decide⟩
end
theorem Wq{g inner:Int}(s:qL)(h1:1<=g)(h5:g<=5)(h0:0<=inner)(h4:inner<=4):SurfOk (Ad g inner s):=by
 have hb:=PT s h1 h5 h0 h4;have hu:=XE s h1 h5 h0 h4;have hv:=XF s h1 h5 h0 h4;have hr: ∀x∈(Ad g inner s).2.2.2.2,x.length=sfV g inner s/\ ∀p∈x,0<p.2:=ZX (g:=g) (inner:=inner) s _;have hl:(Ad g inner s).2.2.2.2.length=sfU g inner s:=Gt g inner s _;refine⟨hb,λx hx p hp=>(hr x hx).2 p hp,by omega,λi hi=>?_⟩;rw[gtD hi,(hr _ (List.getElem_mem _)).1];omega
theorem TS{g inner:Int}(s:qL)(h1:1<=g)(h5:g<=5)(h0:0<=inner)(h4:inner<=4):1<=(Ad g inner s).2.2.2.1.length:=by
 have a:=va (q9 s) (m:=g) (by omega);have c:=Er (d:=1+qa (q9 s) g) (inner:=inner) (sD2 g inner s);show 1<=(sKV g inner s).length;unfold sKV;omega
section
variable {x:Surf} {k:Int} {l:List Pole} {i:Nat}
theorem NB(h:k=1):(x.2.1,x.2.2.2.1,x.2.2.2.2.getD (x.2.2.2.2.length-1) [])=zK x k:=by rw[zK,if_pos h]
theorem NC(h: ¬k=1)(h3:k=3):(x.2.1,x.2.2.2.1,x.2.2.2.2.getD 0 [])=zK x k:=by rw[zK,if_neg h,if_pos h3]
theorem FJ(h: ¬k=1)(h3: ¬k=3)(hl:l=colP k x i)(hi:i=x.2.2.2.2.length):(x.1,x.2.2.1,l)=zK x k:=by rw[zK,if_neg h,if_neg h3,hl,hi]
theorem RI(h:l=colP k x i)(hk:k=0):l++[(x.2.2.2.2.getD i []).getD 0 ((0,(0,0)),0)]=colP k x (i+1):=by rw[colP,if_pos hk,h]
theorem RJ(h:l=colP k x i)(hk: ¬k=0):l++[(x.2.2.2.2.getD i []).getD ((x.2.2.2.2.getD i []).length-1) ((0,(0,0)),0)]=colP k x (i+1):=by rw[colP,if_neg hk,h]
theorem sr_1(h:jO x≠0):((0,[],[]):BK)=(qJ x k).1/\jO x=(qJ x k).2:=by rw[qJ,if_pos h];exact⟨rfl,rfl⟩
theorem sr_2(h: ¬jO x≠0)(hk:k<0\/3<k):((0,[],[]):BK)=(qJ x k).1/\1=(qJ x k).2:=by rw[qJ,if_neg h,if_pos hk];exact⟨rfl,rfl⟩
theorem sr_3(h: ¬jO x≠0)(hk: ¬(k<0\/3<k)):zK x k=(qJ x k).1/\0=(qJ x k).2:=by rw[qJ,if_neg h,if_neg hk];exact⟨rfl,rfl⟩
theorem sr_4{c:BK}(h: ¬jO x≠0)(hk: ¬(k<0\/3<k))(e:c=zK x k):c=(qJ x k).1/\0=(qJ x k).2:=by rw[e];exact sr_3 h hk
theorem PP(h:SurfOk x)(k:Int):(WV.tup [.agg [.dt CL (.p (.n 6) (.p (.s 16 (.n 6)) (.s 16 (zq 16)))) (qJ x k).1],.one (.dt (.int .i64) (.n 8) (qJ x k).2)]).ok:=λy hy=>by
 simp only[q5j,q5r,or_false]at hy;rcases hy with rfl|rfl
 .exact jT (h.sr k).1
 .exact⟨(h.sr k).2,rfl⟩
end
end
abbrev Zw:FI:=⟨28,[(.pr (.int .i64) (.pr (.int .i64) (.pr (.sl .rat) (.pr (.sl .rat) (.sl (.sl (.pr (.pr .rat (.pr .rat .rat)) .rat))))))),(.int .i64)],[(.p (.n 6) (.p (.n 6) (.p (.s 16 (.n 6)) (.p (.s 16 (.n 6)) (.s 16 (.s 16 (.p (.p (.n 16) (.p (.n 16) (.n 16))) (.n 16)))))))),(.n 9223372036854775808)],λz=>(λ(x:Int×Int×List Rat×List Rat×List (List ((Rat×Rat×Rat)×Rat)))(k:Int)=>[SurfOk x]) z.1 z.2,λb z=>(λ(x:Int×Int×List Rat×List Rat×List (List ((Rat×Rat×Rat)×Rat)))(k:Int)=> .c (.agg [.dt CL (.p (.n 6) (.p (.s 16 (.n 6)) (.s 16 (zq 16)))) (zK x k)])) z.1 z.2⟩
theorem Zx:Zw.OK Tryz.prog:=qI hmix 72 Tryz.func28 rfl rfl (by decide) [] (λ(x:Int×Int×List Rat×List Rat×List (List ((Rat×Rat×Rat)×Rat)))(k:Int) b hx hp=>wz ((hp _ q5l:SurfOk x).side k)) (λ(x:Int×Int×List Rat×List Rat×List (List ((Rat×Rat×Rat)×Rat)))(k:Int) hx hp=>by
 have hx1:Int.natAbs k<=9223372036854775808:=hx.2;have hp0:SurfOk x:=hp _ (q5l);have hxl:x.2.2.2.2.length<=16:=hx.1.2.2.2.2.1
 refine⟨.h 1 3 (.i .sub) (.cond (.nil) (.cond (.nil) (.loop [.s 45 (.nat .i64) (.n 1048576),.ex (gboX 6 90001 [(.dt (.int .i64) (.n 6) x.1),(.dt (.sl .rat) (.s 16 (.n 6)) x.2.2.1)] [] (.pr (.pr .rat (.pr .rat .rat)) .rat) (.p (.p (.n 16) (.p (.n 16) (.n 16))) (.n 16)) 1048576)] (λ((i,l):Nat×List ((Rat×Rat×Rat)×Rat))=>l=colP k x i/\i<=x.2.2.2.2.length) (λ((i,l):Nat×List ((Rat×Rat×Rat)×Rat))=>x.2.2.2.2.length-i) (λ((i,l):Nat×List ((Rat×Rat×Rat)×Rat))=> .cond (.cond (.h 12 1 (.ext Ic) (.h 12 5 (.mk (.im (.pr (.pr .rat (.pr .rat .rat)) .rat) (.p (.p (.n 16) (.p (.n 16) (.n 16))) (.n 16)))) (.nil))) (.h 13 1 (.ext Ic) (.h 13 5 (.i .sub) (.h 13 8 (.mk (.im (.pr (.pr .rat (.pr .rat .rat)) .rat) (.p (.p (.n 16) (.p (.n 16) (.n 16))) (.n 16)))) (.nil))))) (.pre 15 (.frz 90001 true []) (.nil)))))),kcast (by kernel_rfl) (have hr0:=hp0.r;I (?_:1<=x.2.2.2.2.length) (Sp (k=1) (λh1=>I (?_:x.2.2.2.2.length-1<x.2.2.2.2.length) ((NB h1:(x.2.1,x.2.2.2.1,x.2.2.2.2.getD (x.2.2.2.2.length-1) [])=zK x k))) (λh2=>Sp (k=3) (λh3=>I (?_:0<x.2.2.2.2.length) ((NC h2 h3:(x.2.1,x.2.2.2.1,x.2.2.2.2.getD 0 [])=zK x k))) (λh4=>I (rfl:([(.dt (.int .i64) (.n 6) x.1),(.dt (.sl .rat) (.s 16 (.n 6)) x.2.2.1)]:List WA)=[(.dt (.int .i64) (.n 6) x.1),(.dt (.sl .rat) (.s 16 (.n 6)) x.2.2.1)]) (I (rfl:([]:List WA)=[]) (I (rfl:0=([]:List ((Rat×Rat×Rat)×Rat)).length) (I (⟨rfl,q64 _⟩:([]:List ((Rat×Rat×Rat)×Rat))=colP k x 0/\0<=x.2.2.2.2.length) (λ(i:Nat)(l:List ((Rat×Rat×Rat)×Rat))(hb5:HB [.s 45 (.nat .i64) (.n 1048576),.ex (gboX 6 90001 [(.dt (.int .i64) (.n 6) x.1),(.dt (.sl .rat) (.s 16 (.n 6)) x.2.2.1)] [] (.pr (.pr .rat (.pr .rat .rat)) .rat) (.p (.p (.n 16) (.p (.n 16) (.n 16))) (.n 16)) 1048576)] (i,l))(hI:l=colP k x i/\i<=x.2.2.2.2.length)=>have hv10:=(show i<=1048576 from hb5.1);have hv11:=(show l.length<=1048576 from hb5.2.1.1);have hll:=(show l.length=i by rw[hI.1,Cp]);have hq:=hp0.q i;have hq2:=hp0.ql i;Sp (i<x.2.2.2.2.length) (λh6=>I (?_:i<x.2.2.2.2.length) (Sp (k=0) (λh7=>I (by(try simp only[q5b,q5c,q5f])<;>omega:0<(x.2.2.2.2.getD i []).length) (I (?_:l.length=l.length) (I (show(i+1)<=1048576 by omega:Bnd (.nat .i64) (.n 1048576) (i+1)) (I (rfl:([(.dt (.int .i64) (.n 6) x.1),(.dt (.sl .rat) (.s 16 (.n 6)) x.2.2.1)]:List WA)=[(.dt (.int .i64) (.n 6) x.1),(.dt (.sl .rat) (.s 16 (.n 6)) x.2.2.1)]) (I (rfl:([]:List WA)=[]) (I (by(try simp only[q5b,q5c,q5f])<;>omega:l.length+[(x.2.2.2.2.getD i []).getD 0 ((0,(0,0)),0)].length=(l++[(x.2.2.2.2.getD i []).getD 0 ((0,(0,0)),0)]).length) (I (by(try simp only[q5b,q5c,q5f])<;>omega:l.length+[(x.2.2.2.2.getD i []).getD 0 ((0,(0,0)),0)].length<=1048576) (q4P (⟨RI hI.1 (by omega),by omega⟩:l++[(x.2.2.2.2.getD i []).getD 0 ((0,(0,0)),0)]=colP k x (i+1)/\(i+1)<=x.2.2.2.2.length) (?_:x.2.2.2.2.length-(i+1)<x.2.2.2.2.length-i))))))))) (λh8=>I (by(try simp only[q5b,q5c,q5f])<;>omega:1<=(x.2.2.2.2.getD i []).length) (I (by(try simp only[q5b,q5c,q5f])<;>omega:((x.2.2.2.2.getD i []).length) -1<(x.2.2.2.2.getD i []).length) (I (?_:l.length=l.length) (I (show(i+1)<=1048576 by omega:Bnd (.nat .i64) (.n 1048576) (i+1)) (I (rfl:([(.dt (.int .i64) (.n 6) x.1),(.dt (.sl .rat) (.s 16 (.n 6)) x.2.2.1)]:List WA)=[(.dt (.int .i64) (.n 6) x.1),(.dt (.sl .rat) (.s 16 (.n 6)) x.2.2.1)]) (I (rfl:([]:List WA)=[]) (I (by(try simp only[q5b,q5c,q5f])<;>omega:l.length+[(x.2.2.2.2.getD i []).getD (((x.2.2.2.2.getD i []).length) -1) ((0,(0,0)),0)].length=(l++[(x.2.2.2.2.getD i []).getD (((x.2.2.2.2.getD i []).length) -1) ((0,(0,0)),0)]).length) (I (by(try simp only[q5b,q5c,q5f])<;>omega:l.length+[(x.2.2.2.2.getD i []).getD (((x.2.2.2.2.getD i []).length) -1) ((0,(0,0)),0)].length<=1048576) (q4P (⟨RJ hI.1 (by omega),by omega⟩:l++[(x.2.2.2.2.getD i []).getD (((x.2.2.2.2.getD i []).length) -1) ((0,(0,0)),0)]=colP k x (i+1)/\(i+1)<=x.2.2.2.2.length) (?_:x.2.2.2.2.length-(i+1)<x.2.2.2.2.length-i)))))))))))) (λh9=>I (?_:l.length=l.length) ((FJ h2 h4 hI.1 (by omega):(x.1,x.2.2.1,l)=zK x k)))))))))))⟩<;>omega)
abbrev Zv:Ctr Tryz.prog:=FI.c Zx
abbrev We:FI:=⟨29,[(.pr (.int .i64) (.pr (.int .i64) (.pr (.sl .rat) (.pr (.sl .rat) (.sl (.sl (.pr (.pr .rat (.pr .rat .rat)) .rat)))))))],[(.p (.n 8) (.p (.n 8) (.p (.s 32 (.n 29)) (.p (.s 32 (.n 29)) (.s 32 (.s 32 (.p (.p (.n 29) (.p (.n 29) (.n 29))) (.n 29))))))))],λz=>(λ(x:Int×Int×List Rat×List Rat×List (List ((Rat×Rat×Rat)×Rat)))=>[PosS x]) z,λb z=>(λ(x:Int×Int×List Rat×List Rat×List (List ((Rat×Rat×Rat)×Rat)))=> .c (.one (.dt (.int .i64) (.n 8) (jO x)))) z⟩
theorem Wf:We.OK Tryz.prog:=qI hmix 162 Tryz.func29 rfl rfl (by decide) [(17,.c Q2),(64,.c Uj),(65,.c Wy),(66,.c HO),(67,.c V8),(68,.c MN),(69,.c Ve)] (λ(x:Int×Int×List Rat×List Rat×List (List ((Rat×Rat×Rat)×Rat))) b hx hp=>qg (M8 x) rfl) (λ(x:Int×Int×List Rat×List Rat×List (List ((Rat×Rat×Rat)×Rat))) hx hp=>by
 have hp0:PosS x:=hp _ (q5l);have hpl:x.2.2.2.2.length<=32:=hx.2.2.2.2.1;have hrw:=Gq λl hl=>(hx.2.2.2.2.2 l hl).1
 refine⟨.loop [.s 3 (.nat .i64) (.n 1048576)] (λ(i:Nat)=>i<=x.2.2.2.2.length) (λ(i:Nat)=>x.2.2.2.2.length-i) (λ(i:Nat)=> .cond (.loop [.s 4 (.nat .i64) (.n 1048576)] (λ(j:Nat)=>j<=(x.2.2.2.2.getD i []).length) (λ(j:Nat)=>(x.2.2.2.2.getD i []).length-j) (λ(j:Nat)=> .nil)) (.cond (.nil) (.cond (.nil) (.cond (.nil) (.loop [.s 7 (.nat .i64) (.n 1048576)] (λ(r:Nat)=>rowB x r=true/\r<=x.2.2.2.2.length) (λ(r:Nat)=>x.2.2.2.2.length-r) (λ(r:Nat)=> .cond (.nil) (.loop [.s 9 (.nat .i64) (.n 1048576),.s 8 .bool .u] (λ((i,b):Nat×Bool)=>b=true/\i<=x.2.2.2.2.length) (λ((i,b):Nat×Bool)=>x.2.2.2.2.length-i) (λ((i,b):Nat×Bool)=> .cond (.loop [.s 10 (.nat .i64) (.n 1048576),.s 8 .bool .u] (λ((j,c):Nat×Bool)=>c=true/\j<=(x.2.2.2.2.getD i []).length) (λ((j,c):Nat×Bool)=>(x.2.2.2.2.getD i []).length-j) (λ((j,c):Nat×Bool)=> .cond (.cond (.dead) (.cond (.h 34 13 (.mk (.im .rat (.n 29))) (.nil)) (.dead))) (.nil))) (.cond (.dead) (.nil)))))))))),kcast (by kernel_rfl) (I (q64 _:0<=x.2.2.2.2.length) (λ(i:Nat)(hb1:HB [.s 3 (.nat .i64) (.n 1048576)] i)(hA:i<=x.2.2.2.2.length)=>have hv34:=(show i<=1048576 from hb1);have hrl:=hrw i;Sp (i<x.2.2.2.2.length) (λh2=>I (q64 _:0<=(x.2.2.2.2.getD i []).length) (λ(j:Nat)(hb3:HB [.s 4 (.nat .i64) (.n 1048576)] j)(hB:j<=(x.2.2.2.2.getD i []).length)=>have hv6:=(show j<=1048576 from hb3);have hrl:=hrw i;I (?_:i<x.2.2.2.2.length) (Sp (j<(x.2.2.2.2.getD i []).length) (λh4=>I (?_:i<x.2.2.2.2.length) (I (by(try simp only[q5b,q5c,q5f])<;>omega:j<(x.2.2.2.2.getD i []).length) (I (?_:i<x.2.2.2.2.length) (I (by(try simp only[q5b,q5c,q5f])<;>omega:j<(x.2.2.2.2.getD i []).length) (I (show(j+1)<=1048576 by omega:Bnd (.nat .i64) (.n 1048576) (j+1)) (q4P ((by omega):(j+1)<=(x.2.2.2.2.getD i []).length) (?_:(x.2.2.2.2.getD i []).length-(j+1)<(x.2.2.2.2.getD i []).length-j))))))) (λh5=>I (show(i+1)<=1048576 by omega:Bnd (.nat .i64) (.n 1048576) (i+1)) (q4P ((by omega):(i+1)<=x.2.2.2.2.length) (?_:x.2.2.2.2.length-(i+1)<x.2.2.2.2.length-i)))))) (λh7=>Sp (qQ x.2.2.1 x.1≠0) (λh8=>(Xc h8:qQ x.2.2.1 x.1=jO x)) (λh9=>Sp (qQ x.2.2.2.1 x.2.1≠0) (λh10=>(Xd h9 h10:qQ x.2.2.2.1 x.2.1=jO x)) (λh11=>Sp (((x.2.2.2.2.length:Nat):Int)≠((x.2.2.1.length:Nat):Int) -x.1-1) (λh12=>(Xe h9 h11 h12:1=jO x)) (λh13=>I (⟨rfl,q64 _⟩:rowB x 0=true/\0<=x.2.2.2.2.length) (λ(r:Nat)(hb14:HB [.s 7 (.nat .i64) (.n 1048576)] r)(hR:rowB x r=true/\r<=x.2.2.2.2.length)=>have hv33:=(show r<=1048576 from hb14);have hRi:=hR.2;Sp (r<x.2.2.2.2.length) (λh15=>I (?_:r<x.2.2.2.2.length) (Sp ((((x.2.2.2.2.getD r []).length:Nat):Int)≠((x.2.2.2.1.length:Nat):Int) -x.2.1-1) (λh16=>(Xf h9 h11 h13 (ZN (n:=r) (by unfold vj;omega) (by omega)):1=jO x)) (λh17=>I (show(r+1)<=1048576 by omega:Bnd (.nat .i64) (.n 1048576) (r+1)) (q4P (⟨W9 hR.1 (by unfold vj;omega),by omega⟩:rowB x (r+1)=true/\(r+1)<=x.2.2.2.2.length) (?_:x.2.2.2.2.length-(r+1)<x.2.2.2.2.length-r))))) (λh18=>I (⟨rfl,q64 _⟩:true=true/\0<=x.2.2.2.2.length) (λ(i:Nat)(b:Bool)(hb19:HB [.s 9 (.nat .i64) (.n 1048576),.s 8 .bool .u] (i,b))(hZ:b=true/\i<=x.2.2.2.2.length)=>have hv32:=(show i<=1048576 from hb19.1);have hZi:=hZ.2;have hrl:=hrw i;Sp (i<x.2.2.2.2.length) (λh20=>I (⟨hZ.1,q64 _⟩:b=true/\0<=(x.2.2.2.2.getD i []).length) (λ(j:Nat)(c:Bool)(hb21:HB [.s 10 (.nat .i64) (.n 1048576),.s 8 .bool .u] (j,c))(hY:c=true/\j<=(x.2.2.2.2.getD i []).length)=>have hv28:=(show j<=1048576 from hb21.1);have hYj:=hY.2;I (?_:i<x.2.2.2.2.length) (Sp (j<(x.2.2.2.2.getD i []).length) (λh22=>I (?_:i<x.2.2.2.2.length) (I (by(try simp only[q5b,q5c,q5f])<;>omega:j<(x.2.2.2.2.getD i []).length) (Sp (qO (((x.2.2.2.2.getD i []).getD j ((0,(0,0)),0)).2)<=0) (λh23=>(absurd h23 (posS hp0 (by omega) (by omega)):False)) (λh24=>Sp (c=true) (λh25=>I (show(j+1)<=1048576 by omega:Bnd (.nat .i64) (.n 1048576) (j+1)) (q4P (⟨rfl,by omega⟩:true=true/\(j+1)<=(x.2.2.2.2.getD i []).length) (?_:(x.2.2.2.2.getD i []).length-(j+1)<(x.2.2.2.2.getD i []).length-j))) (λh26=>(absurd hY.1 h26:False)))))) (λh27=>I (show(i+1)<=1048576 by omega:Bnd (.nat .i64) (.n 1048576) (i+1)) (q4P (⟨hY.1,by omega⟩:c=true/\(i+1)<=x.2.2.2.2.length) (?_:x.2.2.2.2.length-(i+1)<x.2.2.2.2.length-i)))))) (λh29=>Sp ((!b)=true) (λh30=>(by have:=hZ.1;simp_all:False)) (λh31=>(Xg h9 h11 h13 (by rw[show x.2.2.2.2.length=r by omega];exact hR.1):0=jO x))))))))))))⟩<;>omega)
abbrev Wd:Ctr Tryz.prog:=FI.c Wf
section
section
variable {P:Program}
end
end
abbrev q4x:FI:=⟨135,[(.pr (.pr .rat (.pr .rat .rat)) .rat)],[(.p (.p (.n 31) (.p (.n 31) (.n 31))) (.n 31))],λ_=>[],λb z=>(λ(p:(Rat×Rat×Rat)×Rat)=> .c (.agg [.dt Re (X4 (2*(b0 b).mx)) (Lv p)])) z⟩
theorem q4y:q4x.OK Tryz.prog:=qI hmix 25 Tryz.func135 rfl rfl (by decide) [(74,.c Px),(75,.c q27)] (λ(p:(Rat×Rat×Rat)×Rat) b hx hp=>wz (Yt (Bnds.h1 hx))) (λ(p:(Rat×Rat×Rat)×Rat) hx hp=>by
 refine⟨.nil,kcast (by kernel_rfl) ((by rw[Rat.add_zero];rfl:(p.2*p.1.1,p.2*p.1.2.1,p.2*p.1.2.2,p.2+0)=Lv p))⟩)
section
section
variable {P:Program}
end
end
section
section
variable {P:Program}
theorem VJ{fx:Operand}{f:FuncId}{cells:List CAtom}{xs:Array Operand}{ts:Array TypeId}{ty:TypeId}{us:List AV}{R:AV}
  (hl:xs.size=us.length)(h:SigG P f (us++[.c (.one (.abs (ptP cells)))]) [] R []):
  OpOk P (.call {callee:= .value fx,args:=xs,argTypes:=ts}) ty ((fx,.c (.one (.abs (clP f cells))))::List.zip xs.toList us) [] R []:=by
 intro dst pos after guard a w H β K Q hins hkin hdis hon hK;obtain⟨q,hf,hq⟩:=hins _ q5l;simp only at hf;have hargs:AVs β H us (xs.toList.map a.eval):=AVs.of_ins (by simpa using hl) λp hp=>hins p (q5k _ hp)
 have hap: ∀{l:List AV}{vs:List Value},AVs β H l vs->AVs β H (l++[.c (.one (.abs (ptP cells)))]) (vs++[q]):=by
  intro l
  induction l with
  |nil=>intro vs hv;cases vs with
   |nil=>exact⟨hq,trivial⟩
   |cons _ _=>exact hv.elim
  |cons x l ih=>intro vs hv;cases vs with
   |nil=>exact hv.elim
   |cons _ _=>exact⟨hv.1,ih hv.2⟩
 have hc:=h.2 _ w H β (hap hargs) hkin hdis hon;unfold Oper.wp
 have hrun:(execOp a.eval ⟨dst,.call {callee:= .value fx,args:=xs,argTypes:=ts},ty,pos,after,guard⟩).run P w= .ok (.enter f (xs.map a.eval++ #[q])) w:=by
  simp only[execOp,resolve,hf,Deferred.ofValue,q6b,q6c,q6a,invoke];rw[show(#[]++Array.map a.eval xs++ #[q]:Array Value)=Array.map a.eval xs++ #[q] by simp];exact CH h.1 _ w
 rw[hrun];show Calls P f (xs.map a.eval++ #[q]) w _;have e:(xs.toList.map a.eval++[q]).toArray=xs.map a.eval++ #[q]:=Array.ext' (by simp);rw[<-e];refine hc.mono λe' w'⟨v,H',β',he,hs,hR,hL⟩=>?_
 subst he;exact hK v w' H' β' hs hR hL
def gMkF:Op->Option Tmp->(Nat->Option WB)->List WV->HR
 | .makeFunc (.func f) a b,_,_,[.c (.one (.ip t bd x 0))]=>bif Nat.beq a.size 0&&Nat.beq b.size 1 then .ok [] (.c (.one (.dt (.cl f t) bd x))) [] []else .bad
 |_,_,_,_=> .bad
def q0Z:Ext P:=⟨gMkF,by
 intro op dst ty bl vs hl;unfold gMkF;split
 .rename_i f a b t bd x
  cases hc:Nat.beq a.size 0&&Nat.beq b.size 1 with
  |false=>exact trivial
  |true=>
   simp only[q4R]at hc;have ha:a= #[]:=q4Q (q5C hc.1)
   obtain⟨o,hb⟩: ∃o,b= #[o]:=by
    have h1:=q5C hc.2;exact⟨b[0]'(by omega),Array.ext (by simp[h1]) λi h1 h2=>by simp at h2;subst h2;rfl⟩
   subst ha hb;intro hv _ hvc kin hk _;rw[qh hk];refine⟨?_,⟨hv _ q5l|>.1,rfl⟩,qm⟩;show OpOk P _ ty [(o,.c (.one (.ptr (cellsC t x))))] [] (.c (.one (.abs (clP f (cellsC t x))))) [];refine qn λa w H β hins _ _=>?_
   have h0:=hins _ q5l;refine⟨.func (.func f) #[] #[a.eval o],⟨a.eval o,rfl,h0⟩,λ_ _ _ _=>?_⟩;simp[execOp,Instr.makeFunc]
 .exact trivial⟩
def U8(C:Ctr P)(vs:List WV):HR:=
 match vs with
 | .c (.one (.dt (.cl f t) b x))::vs=>bif Nat.beq f C.f then(match ze C.ts (vs++[.c (.one (.dt (.pt t) b x))])with
  |some (bs,x)=>bif Bds.le bs C.bs then .ok (C.pre x) (C.res bs x) [] []else .bad
  |none=> .bad)else .bad
 |_=> .bad
def gClC(C:Ctr P)(op:Op)(dst:Option Tmp)(bl:Nat->Option WB)(vs:List WV):HR:=
 match op with
 | .call {callee:= .value _,args:=aas,argTypes:=_}=>bif Nat.beq vs.length (aas.size+1)then U8 C vs else .bad
 |_=> .bad
def q0Y(C:Ctr P):Ext P:=⟨gClC C,by
 intro op dst ty bl vs hl;unfold gClC;split
 .rename_i fx aas ts
  cases hn:Nat.beq vs.length (aas.size+1)with
  |false=>exact trivial
  |true=>
   simp only[cond_true];have hn:=q5C hn;unfold U8;split
   .rename_i f t b x vs _
    cases hf:Nat.beq f C.f with
    |false=>exact trivial
    |true=>
     simp only[cond_true];have hf:=q5C hf;split
     .rename_i bs y hx
      cases hb:Bds.le bs C.bs with
      |false=>exact trivial
      |true=>
       intro hv _ hvc kin hk _;rw[qh hk]
       obtain⟨h1,h2,h3⟩:=wj hx (λw hw=>by
        rcases q5i.1 hw with hw|hw
        .exact hv w (q5k _ hw)
        .rw[q5p.1 hw];exact⟨(hv _ q5l).1,rfl⟩)
       refine⟨?_,C.okr bs y h2 hvc,qm⟩;have hs:=CI h1 (C.sig y (Bnds.mono hb h2) hvc);rw[C.hexp bs y];rw[List.map_append]at hs;rw[show Op.operands (.call {callee:= .value fx,args:=aas,argTypes:=ts})= #[fx]++aas from rfl];have e:(#[fx]++aas:Array Operand).toList=fx::aas.toList:=by simp
       rw[e];subst hf;exact VJ (by simp at hn;simp[hn]) hs
     .exact trivial
   .exact trivial
 .exact trivial⟩
end
end
section
section
variable {P:Program}
end
end
section
section
variable {P:Program}
end
end
section
section
variable {P:Program}
end
end
section
section
variable {P:Program}
end
end
section
section
variable {P:Program}
end
end
section
section
variable {P:Program}
theorem q1f{op:Op}{ty:TypeId}{o:Operand}{v v':WV}{bl:Nat->Option WB}{r:HR}(h:HOk P op ty [o] [v'] bl r)(h1:v.ok->v'.ok)(h2: ∀β H u,v.exp.sat β H u->v'.exp.sat β H u):HOk P op ty [o] [v] bl r:=by
 have key: ∀{kin:List (Nat×Blk)}{R:AV}{Lw:List (Nat×Option Blk)},OpOk P op ty [(o,v'.exp)] kin R Lw->OpOk P op ty [(o,v.exp)] kin R Lw:=λh dst pos after guard a w H β K Q hins=>h dst pos after guard a w H β K Q (λp hp=>by
  rw[q5p.1 hp];exact h2 _ _ _ (hins (o,v.exp) q5l))
 have ho:(∀u∈[v],u.ok)-> ∀u∈[v'],u.ok:=λh u hu=>by rw[q5p.1 hu];exact h1 (h v q5l)
 cases r with
 |bad=>trivial
 |ok vc R ks Lw=>exact λhv hb hvc kin hk hkb=>by obtain⟨a,c⟩:=h (ho hv) hb hvc kin hk hkb;exact⟨key a,c⟩
 |spl q R1 R2=>exact λhv=>⟨λhq=>⟨key ((h (ho hv)).1 hq).1,((h (ho hv)).1 hq).2⟩,λhq=>⟨key ((h (ho hv)).2 hq).1,((h (ho hv)).2 hq).2⟩⟩
 |okA vc R k b'=>exact λhv hb hvc b hb'=>by obtain⟨a,c,e⟩:=h (ho hv) hb hvc b hb';exact⟨key a,key c,e⟩
def gFaP(P:Program):Op->Option Tmp->(Nat->Option WB)->List WV->HR
 | .fieldAddr s _ f,_,_,[.c (.one (.dt (.pt t) b x))]=>BY P s f (.c (.one (.ip t b x 0)))
 |_,_,_,_=> .bad
def S2:Ext P:=⟨gFaP P,by
 intro op dst ty bl vs hl;unfold gFaP;split
 .rename_i s o f t b x
  exact q1f (v':= .c (.one (.ip t b x 0))) Be (λh=>h) (λβ H u h=>h)
 .exact trivial⟩
end
end
end Go.Proofs.YtknbiadjbdemdaaGreat.Sx
