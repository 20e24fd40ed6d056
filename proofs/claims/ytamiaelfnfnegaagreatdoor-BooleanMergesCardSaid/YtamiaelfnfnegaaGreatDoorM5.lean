/-
Own laws, part 5. No condition.
-/
import Derived.Test.YtamiaelfnfnegaaGreatDoorM4
import Derived.ChangeKeysEq
import Derived.StringKeys
import Derived.WalkSpells
import Derived.Laws.Pointers
namespace Go.Proofs.YtamiaelfnfnegaaGreatDoor.Sx.Kx
open Go
set_option linter.unusedVariables false
set_option linter.unusedSimpArgs false
def XStr(ℓ:Nat):XV->Prop
 | .av a=>ℓ%2=0/\ ∀β H v k,a.sat β H v->a.men k=true->β k≠none
 | .bl b=>ℓ%2=1/\(∀β w H q k,b.rep β w H q->b.men k=true->β k≠none)/\ ∀β w H q,b.rep β w H q->β q≠none
def Str(σ:FS):Prop:= ∀ℓ x,σ ℓ=some x->XStr ℓ x
def noAl:Nat->XV->Prop:=λ_ _=>False
def GoodK(P:Program)(E:Env)(ops:Array Oper)(i:Nat)(p:PI)(al:Nat->XV->Prop)(lo hi:Nat)(σi:FS):Prop:=
 ∀σ:FS,Str σ->(∀ℓ∈p.rd,σ ℓ=σi ℓ\/ ∃x,al ℓ x/\σ ℓ=some x)->
  ∀a w H β K Q,RepF E σ a w H β->(∀k,lo<=k->k<hi->β k=none)->
   (∀a' w' H' β',RepF E (σ.upd p.W) a' w' H' β'->(∀k,k<lo\/hi<=k->β' k=β k)->K a' w')->wpOp P ops Q i K a w
def Ord(M:List Nat)(i j:Nat):Prop:=(i<j/\Nat.testBit (M.getD j 0) i=true)\/(j<i/\Nat.testBit (M.getD i 0) j=true)
def Ge(n:Nat)(pl:Nat->PI)(M:List Nat):Prop:=
 ∀i j,i<j->j<n-> ∀ℓ,look (pl i).W ℓ≠none->look (pl j).W ℓ≠none->Nat.testBit (M.getD j 0) i=true
def Same(al:Nat->XV->Prop)(ℓ:Nat)(u v:Option XV):Prop:=u=v\/ ∃x,al ℓ x/\u=some x
def RdOk(n:Nat)(pl:Nat->PI)(al:Nat->Nat->XV->Prop)(M:List Nat)(σ0:FS):Prop:=
 ∀i,i<n-> ∀ℓ∈(pl i).rd,∀u,u<n->u≠i->look (pl u).W ℓ≠none-> ¬Ord M u i->
  Same (al i) ℓ (ev pl (List.range u) σ0 ℓ) (ev pl (List.range i) σ0 ℓ)/\Same (al i) ℓ (ev pl (List.range (u+1)) σ0 ℓ) (ev pl (List.range i) σ0 ℓ)
section
variable {P:Program} {E:Env} {ops:Array Oper} {M:List Nat} {pl:Nat->PI} {σ0:FS} {Q:Exit->Act->World->Prop}
theorem PC(n:Nat)(σ:FS):ev pl (List.range (n+1)) σ=(ev pl (List.range n) σ).upd (pl n).W:=by
 rw[List.range_succ,Az];rfl
theorem XF{σ:FS}{W:Wr}{ℓ:Nat}(h:look W ℓ=none):σ.upd W ℓ=σ ℓ:=by simp[FS.upd,h]
theorem Wv {ℓ : Nat} {a : Nat} : ∀ {b : Nat}, a <= b -> ev pl (List.range b) σ0 ℓ = ev pl (List.range a) σ0 ℓ \/ ∃ j, a <= j /\ j < b /\ look (pl j).W ℓ ≠ none /\ ev pl (List.range b) σ0 ℓ = ev pl (List.range (j + 1)) σ0 ℓ := by
  intro b
  induction b with
  | zero => intro h; have : a = 0 := by omega
            subst this; exact .inl rfl
  | succ b ih =>
    intro h;by_cases e : a = b + 1
    · subst e; exact .inl rfl
    · cases hw : look (pl b).W ℓ with
      | some v => exact .inr ⟨b, by omega, by omega, by rw [hw]; simp, rfl⟩
      | none =>
        have e1 : ev pl (List.range (b + 1)) σ0 ℓ = ev pl (List.range b) σ0 ℓ := by rw [PC, XF hw]
        rw [e1];rcases ih (by omega) with h1 | ⟨j, h1, h2, h3, h4⟩
        · exact .inl h1
        · exact .inr ⟨j, h1, by omega, h3, h4⟩
theorem KT(wr:Nat->Bool)(li:Nat->Bool): ∀n,(∀j,j<n->wr j=true->li j=true)\/ ∃u,u<n/\wr u=true/\li u=false/\ ∀j,j<u->wr j=true->li j=true
 |0=> .inl λj h=>by omega
 |n+1=>by
  rcases KT wr li n with h|⟨u,h1,h2,h3,h4⟩
  .by_cases e:wr n=true/\li n=false
   .exact .inr ⟨n,by omega,e.1,e.2,h⟩
   .refine .inl λj hj hw=>?_
    by_cases ej:j=n
    .subst ej
     cases hl:li j with
     |true=>rfl
     |false=>exact absurd ⟨hw,hl⟩ e
    .exact h j (by omega) hw
  .exact .inr ⟨u,by omega,h2,h3,h4⟩
theorem Pc(hM:okM ops.toList M=true)(hW:Ge ops.size pl M){listed:Array Bool}(hc:wl ops listed)(ℓ:Nat):
  ∃u,u<=ops.size/\σS pl ops.size σ0 listed ℓ=ev pl (List.range u) σ0 ℓ/\(u<ops.size->look (pl u).W ℓ≠none/\listed.getD u false=false)/\(∀j,j<u->look (pl j).W ℓ≠none->listed.getD j false=true):=by
 have key: ∀u,u<=ops.size->(∀j,j<ops.size->look (pl j).W ℓ≠none->(listed.getD j false=true↔j<u))->σS pl ops.size σ0 listed ℓ=ev pl (List.range u) σ0 ℓ:=by
  intro u hu h;unfold σS;rw[jQ pl ℓ,jQ pl ℓ (List.range u),List.filter_filter];refine congrArg (λl=>ev pl l σ0 ℓ) ?_;rw[<-wE (λj=>(look (pl j).W ℓ).isSome) u ops.size hu];refine List.filter_congr λj hj=>?_
  have hj':j<ops.size:=by simpa using hj
  cases hw:look (pl j).W ℓ with
  |none=>simp
  |some v=>
   have:=h j hj' (by rw[hw];simp);by_cases hl:listed.getD j false=true
   .have:=this.1 hl;simp[hl,this]
   .have h2: ¬j<u:=λh'=>hl (this.2 h')
    have h3:listed.getD j false=false:=by
     cases hq:listed.getD j false with
     |false=>rfl
     |true=>exact absurd hq hl
    simp[h3,h2]
 rcases KT (λj=>(look (pl j).W ℓ).isSome) (λj=>listed.getD j false) ops.size with h|⟨u,h1,h2,h3,h4⟩
 .refine⟨ops.size,q5B _,key _ (q5B _) λj hj hw=>⟨λ_=>hj,λ_=>h j hj (Option.isSome_iff_ne_none.2 hw)⟩,λh=>absurd h (Nat.lt_irrefl _),λj hj hw=>h j hj (Option.isSome_iff_ne_none.2 hw)⟩
 .have h2':look (pl u).W ℓ≠none:=Option.isSome_iff_ne_none.1 h2
  refine⟨u,by omega,key u (by omega) λj hj hw=>⟨λhl=>?_,λhl=>h4 j hl (Option.isSome_iff_ne_none.2 hw)⟩,λ_=>⟨h2',h3⟩,λj hj hw=>h4 j hj (Option.isSome_iff_ne_none.2 hw)⟩;rcases Nat.lt_trichotomy j u with h'|h'|h'
  .exact h'
  .subst h';rw[hl]at h3;cases h3
  .have:=z8 hM hc u j hj hl (hW u j h' hj ℓ h2' hw)
   rw[this]at h3;cases h3
theorem q2G{al:Nat->Nat->XV->Prop}(hM:okM ops.toList M=true)(hW:Ge ops.size pl M)(hR:RdOk ops.size pl al M σ0){listed:Array Bool}(hc:wl ops listed){i:Nat}(hi:i∈Region.ready .any ops listed)
  {ℓ:Nat}(hℓ:ℓ∈(pl i).rd):Same (al i) ℓ (σS pl ops.size σ0 listed ℓ) (ev pl (List.range i) σ0 ℓ):=by
 obtain⟨hnl,o,ho,_⟩:=mem_ready.1 hi;have hlt:i<ops.size:=(Array.getElem?_eq_some_iff.1 ho).1
 have hnl':listed.getD i false=false:=by
  rcases q5F i listed.size with h'|h'
  .simp[h']at hnl⊢;exact hnl
  .simp[Array.getElem?_eq_none h']at hnl
 obtain⟨u,hu,he,hu2,hu3⟩:=Pc (σ0:=σ0) hM hW hc ℓ;rw[he];rcases Nat.lt_trichotomy u i with h|h|h
 .obtain⟨h1,h2⟩:=hu2 (by omega)
  refine(hR i hlt ℓ hℓ u (by omega) (by omega) h1 ?_).1
  rintro(⟨_,h3⟩|⟨h3,_⟩)
  .rw[EU hM hc hi h3]at h2;cases h2
  .omega
 .subst h;exact .inl rfl
 .rcases Wv (pl:=pl) (σ0:=σ0) (ℓ:=ℓ) (q5z h)with h1|⟨j,h1,h2,h3,h4⟩
  .exact .inl h1
  .rw[h4]
   have hjl:=hu3 j h2 h3;have hji:j≠i:=λe=>by subst e;rw[hjl]at hnl';cases hnl'
   refine(hR i hlt ℓ hℓ j (by omega) hji h3 ?_).2
   rintro(⟨h5,_⟩|⟨h5,h6⟩)
   .omega
   .rw[z8 hM hc i j (by omega) hjl h6]at hnl';cases hnl'
theorem q4C(hM:okM ops.toList M=true)(hW:Ge ops.size pl M){listed:Array Bool}(hsz:listed.size=ops.size)(hc:wl ops listed){i:Nat}(hi:i∈Region.ready .any ops listed):
  σS pl ops.size σ0 (listed.setIfInBounds i true)=(σS pl ops.size σ0 listed).upd (pl i).W:=by
 obtain⟨hnl,o,ho,_⟩:=mem_ready.1 hi;have hlt:i<ops.size:=(Array.getElem?_eq_some_iff.1 ho).1
 have hnl':listed.getD i false=false:=by
  have h':i<listed.size:=by omega
  simp[h']at hnl⊢;exact hnl
 funext ℓ
 cases hw:look (pl i).W ℓ with
 |none=>
  have:(σS pl ops.size σ0 listed).upd (pl i).W ℓ=σS pl ops.size σ0 listed ℓ:=by simp[FS.upd,hw]
  rw[this];unfold σS;rw[jQ pl ℓ,jQ pl ℓ ((List.range ops.size).filter _),List.filter_filter,List.filter_filter];refine congrArg (λl=>ev pl l σ0 ℓ) ?_;refine List.filter_congr λj hj=>?_
  rw[vg _ _ _ (by omega)];by_cases e:j=i
  .subst e;simp[hw]
  .simp[e]
 |some v=>
  have:(σS pl ops.size σ0 listed).upd (pl i).W ℓ=v:=by simp[FS.upd,hw]
  rw[this];unfold σS;rw[jQ pl ℓ,List.filter_filter];have hne:look (pl i).W ℓ≠none:=by rw[hw];simp
  have:(List.range ops.size).filter (λj=>(look (pl j).W ℓ).isSome&&(listed.setIfInBounds i true).getD j false)=
    (List.range i).filter (λj=>(look (pl j).W ℓ).isSome&&listed.getD j false)++[i]:=by
   have e1:(List.range (i+1)).filter (λj=>(look (pl j).W ℓ).isSome&&(listed.setIfInBounds i true).getD j false)=
     (List.range i).filter (λj=>(look (pl j).W ℓ).isSome&&listed.getD j false)++[i]:=by
    rw[List.range_succ,List.filter_append]
    congr 1
    .refine List.filter_congr λj hj=>?_
     have:j<i:=by simpa using hj
     rw[vg _ _ _ (by omega)];have e: ¬j=i:=by omega
     simp[e]
    .simp[hw,hsz,hlt]
   rw[<-e1,<-wE _ (i+1) ops.size (by omega)];refine List.filter_congr λj hj=>?_
   have hj':j<ops.size:=by simpa using hj
   by_cases h:j<i+1
   .simp[h]
   .simp only[h,decide_false,Bool.false_and]
    rw[vg _ _ _ (by omega)];have e: ¬j=i:=by omega
    simp only[e,decide_false,Bool.false_or]
    cases hwj:look (pl j).W ℓ with
    |none=>rfl
    |some u=>
     have hb:=hW i j (by omega) hj' ℓ hne (by rw[hwj];simp)
     cases hl:listed.getD j false with
     |false=>rfl
     |true=>rw[z8 hM hc i j hj' hl hb]at hnl';cases hnl'
  rw[this,Az];simp[ev,FS.upd,hw]
theorem Str.upd{σ:FS}{W:Wr}(h:Str σ)(hw: ∀ℓ x,look W ℓ=some (some x)->XStr ℓ x):Str (σ.upd W):=by
 intro ℓ x hx;simp only[FS.upd]at hx
 cases hl:look W ℓ with
 |none=>rw[hl]at hx;exact h ℓ x hx
 |some v=>rw[hl]at hx;simp only at hx;subst hx;exact hw ℓ x hl
theorem Str.ev(hw: ∀j ℓ x,look (pl j).W ℓ=some (some x)->XStr ℓ x): ∀(l:List Nat){σ:FS},Str σ->Str (Sx.ev pl l σ)
 |[],_,h=>h
 |j::l,σ,h=>Str.ev hw l (h.upd (hw j))
theorem q0J{al:Nat->Nat->XV->Prop}{lo hi:Nat->Nat}{β0:Bm}(hM:okM ops.toList M=true)(hW:Ge ops.size pl M)(hR:RdOk ops.size pl al M σ0)(hs:Str σ0)(hsW: ∀j ℓ x,look (pl j).W ℓ=some (some x)->XStr ℓ x)
  (hlo: ∀i j,i<j->j<ops.size->hi i<=lo j)(hlh: ∀i,lo i<=hi i)
  (hG: ∀i,i<ops.size->GoodK P E ops i (pl i) (al i) (lo i) (hi i) (ev pl (List.range i) σ0))
  (hQ: ∀a w H β,RepF E (ev pl (List.range ops.size) σ0) a w H β->(∀k,(∀i,i<ops.size->k<lo i\/hi i<=k)->β k=β0 k)->Q .normal a w):
  ∀(fuel:Nat)(listed:Array Bool)(a:Act)(w:World)(H:Heap)(β:Bm),listed.size=ops.size->((List.range ops.size).filter λj=>listed.getD j false).length+fuel=ops.size->
   wl ops listed->RepF E (σS pl ops.size σ0 listed) a w H β->(∀i,i<ops.size->listed.getD i false=false-> ∀k,lo i<=k->k<hi i->β k=none)->
   (∀k,(∀i,i<ops.size->k<lo i\/hi i<=k)->β k=β0 k)->wpAny P .any ops Q fuel listed a w:=by
 have hall: ∀(listed:Array Bool),listed.size=ops.size->wl ops listed->Region.ready .any ops listed=[]-> ∀j,j<ops.size->listed.getD j false=true:=by
  intro listed hsz hc hr j
  induction j using Nat.strongRecOn with
  |_ j ih=>
   intro hj
   cases hl:listed.getD j false with
   |true=>rfl
   |false=>
    have ho:ops[j]?=some ops[j]:=Array.getElem?_eq_getElem hj
    have:j∈Region.ready .any ops listed:=by
     rw[mem_ready];have hj':j<listed.size:=by omega
     refine⟨by simp[hj']at hl⊢;exact hl,_,ho,λe he hb=>?_⟩;have:=(J1 hM ho).2 e he hb;exact ih e.on this (by omega)
    rw[hr]at this;cases this
 have hfull: ∀(listed:Array Bool),(∀j,j<ops.size->listed.getD j false=true)->σS pl ops.size σ0 listed=ev pl (List.range ops.size) σ0:=by
  intro listed h;unfold σS
  congr 1
  rw[List.filter_eq_self];intro j hj;exact h j (by simpa using hj)
 intro fuel
 induction fuel with
 |zero=>
  intro listed a w H β hsz hlen hc hrep hd hb
  have hf:((List.range ops.size).filter λj=>listed.getD j false)=List.range ops.size:=by
   refine List.Sublist.eq_of_length List.filter_sublist ?_;simpa using hlen
  have hl: ∀j,j<ops.size->listed.getD j false=true:=by
   intro j hj;exact(List.filter_eq_self.1 hf) j (by simpa using hj)
  refine⟨?_,hQ a w H β (hfull listed hl▸hrep) hb⟩
  cases hr:Region.ready .any ops listed with
  |nil=>rfl
  |cons i r=>
   have hi:i∈Region.ready .any ops listed:=by rw[hr];exact q5f
   obtain⟨hnl,o,ho,_⟩:=mem_ready.1 hi;have hlt:i<ops.size:=(Array.getElem?_eq_some_iff.1 ho).1;have:=hl i hlt;have h':i<listed.size:=by omega
   simp[h']at hnl this;rw[hnl]at this;cases this
 |succ fuel ih=>
  intro listed a w H β hsz hlen hc hrep hd hb;refine⟨λhr=>hQ a w H β (hfull listed (hall listed hsz hc hr)▸hrep) hb,λi hi'=>?_⟩;obtain⟨hnl,o,ho,hedges⟩:=mem_ready.1 hi';have hlt:i<ops.size:=(Array.getElem?_eq_some_iff.1 ho).1;have hlt':i<listed.size:=by omega
  have hnl':listed.getD i false=false:=by simp[hlt']at hnl⊢;exact hnl
  refine hG i hlt (σS pl ops.size σ0 listed) (Str.ev hsW _ hs) (λℓ hℓ=>q2G hM hW hR hc hi' hℓ) a w H β _ Q hrep (hd i hlt hnl') ?_;intro a' w' H' β' hrep' hβ;rw[<-q4C hM hW hsz hc hi']at hrep';refine ih _ a' w' H' β' (by simpa using hsz) ?_ ?_ hrep' ?_ ?_
  .have e1:((List.range ops.size).filter λj=>(listed.setIfInBounds i true).getD j false).length=((List.range ops.size).filter λj=>listed.getD j false).length+1:=by
    rw[<-List.countP_eq_length_filter,<-List.countP_eq_length_filter]
    have: ∀n,i<n->(List.range n).countP (λj=>(listed.setIfInBounds i true).getD j false)=(List.range n).countP (λj=>listed.getD j false)+1:=by
     intro n
     induction n with
     |zero=>intro h;omega
     |succ n ihn=>
      intro h;rw[List.range_succ,List.countP_append,List.countP_append];by_cases e:i=n
      .subst e
       have:(List.range i).countP (λj=>(listed.setIfInBounds i true).getD j false)=(List.range i).countP (λj=>listed.getD j false):=by
        refine List.countP_congr λj hj=>?_
        have:j<i:=by simpa using hj
        have e: ¬j=i:=by omega
        rw[vg _ _ _ hlt'];simp[e]
       rw[this]
       have s1:List.countP (λj=>(listed.setIfInBounds i true).getD j false) [i]=1:=by
        simp[vg _ _ _ hlt']
       have s2:List.countP (λj=>listed.getD j false) [i]=0:=by
        simp only[List.countP_cons,List.countP_nil,hnl'];rfl
       rw[s1,s2]
      .rw[ihn (by omega)]
       have:List.countP (λj=>(listed.setIfInBounds i true).getD j false) [n]=List.countP (λj=>listed.getD j false) [n]:=by
        have e': ¬n=i:=λh=>e h.symm
        simp only[List.countP_cons,List.countP_nil];rw[vg _ _ _ hlt'];simp[e']
       rw[this];omega
    exact this ops.size hlt
   omega
  .intro j oj hoj hl e he hb
   rw[vg _ _ _ hlt']at hl⊢;by_cases e':j=i
   .subst e'
    rw[ho]at hoj;cases hoj
    simp[hedges e he hb]
   .simp only[e',decide_false,Bool.false_or]at hl
    simp[hc j oj hoj hl e he hb]
  .intro j hj hl k h1 h2
   rw[vg _ _ _ hlt']at hl;simp only[Bool.or_eq_false_iff,decide_eq_false_iff_not]at hl
   have hk:k<lo i\/hi i<=k:=by
    rcases Nat.lt_trichotomy i j with h|h|h
    .have:=hlo i j h hj;exact .inr (by omega)
    .exact absurd h.symm hl.1
    .have:=hlo j i h hlt;exact .inl (by omega)
   rw[hβ k hk];exact hd j hj hl.2 k h1 h2
  .intro k hk
   rw[hβ k (hk i hlt)];exact hb k hk
theorem Xj{al:Nat->Nat->XV->Prop}{lo hi:Nat->Nat}(hm:P.follows .mixedOrders=true)(hM:okM ops.toList M=true)(hW:Ge ops.size pl M)(hR:RdOk ops.size pl al M σ0)(hs:Str σ0)(hsW: ∀j ℓ x,look (pl j).W ℓ=some (some x)->XStr ℓ x)
  (hlo: ∀i j,i<j->j<ops.size->hi i<=lo j)(hlh: ∀i,lo i<=hi i)
  (hG: ∀i,i<ops.size->GoodK P E ops i (pl i) (al i) (lo i) (hi i) (ev pl (List.range i) σ0))
  {a:Act}{w:World}{H:Heap}{β:Bm}(hrep:RepF E σ0 a w H β)(hd: ∀i,i<ops.size-> ∀k,lo i<=k->k<hi i->β k=none)
  (hQ: ∀a w H β',RepF E (ev pl (List.range ops.size) σ0) a w H β'->(∀k,(∀i,i<ops.size->k<lo i\/hi i<=k)->β' k=β k)->Q .normal a w)
  {id:Nat}:(Code.region id ops true).wp P Q a w:=by
 refine wp_region_any hm ?_
 have hrep':RepF E σ0 a {w with drawn:=w.drawn+1} H β:=
  ⟨hrep.defers,hrep.size,hrep.slot,λk b hb=>by have:=hrep.blk k b hb;cases b<;>exact this,hrep.own,hrep.inj,hrep.bor,hrep.os,hrep.tape,hrep.output,hrep.wsize,hrep.frame,hrep.hle,hrep.hnew,hrep.hon⟩
 have hnone:((List.range ops.size).filter λj=>(Array.replicate ops.size false).getD j false)=[]:=by
  rw[List.filter_eq_nil_iff];intro j hj;have:j<ops.size:=by simpa using hj
  simp[this]
 have hrep'':RepF E (σS pl ops.size σ0 (Array.replicate ops.size false)) a {w with drawn:=w.drawn+1} H β:=by
  unfold σS;rw[hnone];exact hrep'
 refine q0J hM hW hR hs hsW hlo hlh hG hQ ops.size _ a _ H β (by simp) (by rw[hnone];simp) ?_ hrep'' (λi hi' _=>hd i hi') (λ_ _=>rfl);intro j o ho hl;have:j<ops.size:=(Array.getElem?_eq_some_iff.1 ho).1;simp[this]at hl
end
inductive D16 where
 |d0|d1|d2|d3|d4|d5|d6|d7|d8|d9|d10|d11|d12|d13|d14|d15
 deriving DecidableEq
structure N16 (α:Type) where
 c0:α
 c1:α
 c2:α
 c3:α
 c4:α
 c5:α
 c6:α
 c7:α
 c8:α
 c9:α
 c10:α
 c11:α
 c12:α
 c13:α
 c14:α
 c15:α
section
variable {α:Type}
noncomputable def N16.u0(t:N16 α)(v:α):N16 α:= @N16.rec α (λ_=>N16 α) (λ_ c1 c2 c3 c4 c5 c6 c7 c8 c9 c10 c11 c12 c13 c14 c15=>⟨v,c1,c2,c3,c4,c5,c6,c7,c8,c9,c10,c11,c12,c13,c14,c15⟩) t
noncomputable def N16.u1(t:N16 α)(v:α):N16 α:= @N16.rec α (λ_=>N16 α) (λc0 _ c2 c3 c4 c5 c6 c7 c8 c9 c10 c11 c12 c13 c14 c15=>⟨c0,v,c2,c3,c4,c5,c6,c7,c8,c9,c10,c11,c12,c13,c14,c15⟩) t
noncomputable def N16.u2(t:N16 α)(v:α):N16 α:= @N16.rec α (λ_=>N16 α) (λc0 c1 _ c3 c4 c5 c6 c7 c8 c9 c10 c11 c12 c13 c14 c15=>⟨c0,c1,v,c3,c4,c5,c6,c7,c8,c9,c10,c11,c12,c13,c14,c15⟩) t
noncomputable def N16.u3(t:N16 α)(v:α):N16 α:= @N16.rec α (λ_=>N16 α) (λc0 c1 c2 _ c4 c5 c6 c7 c8 c9 c10 c11 c12 c13 c14 c15=>⟨c0,c1,c2,v,c4,c5,c6,c7,c8,c9,c10,c11,c12,c13,c14,c15⟩) t
noncomputable def N16.u4(t:N16 α)(v:α):N16 α:= @N16.rec α (λ_=>N16 α) (λc0 c1 c2 c3 _ c5 c6 c7 c8 c9 c10 c11 c12 c13 c14 c15=>⟨c0,c1,c2,c3,v,c5,c6,c7,c8,c9,c10,c11,c12,c13,c14,c15⟩) t
noncomputable def N16.u5(t:N16 α)(v:α):N16 α:= @N16.rec α (λ_=>N16 α) (λc0 c1 c2 c3 c4 _ c6 c7 c8 c9 c10 c11 c12 c13 c14 c15=>⟨c0,c1,c2,c3,c4,v,c6,c7,c8,c9,c10,c11,c12,c13,c14,c15⟩) t
noncomputable def N16.u6(t:N16 α)(v:α):N16 α:= @N16.rec α (λ_=>N16 α) (λc0 c1 c2 c3 c4 c5 _ c7 c8 c9 c10 c11 c12 c13 c14 c15=>⟨c0,c1,c2,c3,c4,c5,v,c7,c8,c9,c10,c11,c12,c13,c14,c15⟩) t
noncomputable def N16.u7(t:N16 α)(v:α):N16 α:= @N16.rec α (λ_=>N16 α) (λc0 c1 c2 c3 c4 c5 c6 _ c8 c9 c10 c11 c12 c13 c14 c15=>⟨c0,c1,c2,c3,c4,c5,c6,v,c8,c9,c10,c11,c12,c13,c14,c15⟩) t
noncomputable def N16.u8(t:N16 α)(v:α):N16 α:= @N16.rec α (λ_=>N16 α) (λc0 c1 c2 c3 c4 c5 c6 c7 _ c9 c10 c11 c12 c13 c14 c15=>⟨c0,c1,c2,c3,c4,c5,c6,c7,v,c9,c10,c11,c12,c13,c14,c15⟩) t
noncomputable def N16.u9(t:N16 α)(v:α):N16 α:= @N16.rec α (λ_=>N16 α) (λc0 c1 c2 c3 c4 c5 c6 c7 c8 _ c10 c11 c12 c13 c14 c15=>⟨c0,c1,c2,c3,c4,c5,c6,c7,c8,v,c10,c11,c12,c13,c14,c15⟩) t
noncomputable def N16.u10(t:N16 α)(v:α):N16 α:= @N16.rec α (λ_=>N16 α) (λc0 c1 c2 c3 c4 c5 c6 c7 c8 c9 _ c11 c12 c13 c14 c15=>⟨c0,c1,c2,c3,c4,c5,c6,c7,c8,c9,v,c11,c12,c13,c14,c15⟩) t
noncomputable def N16.u11(t:N16 α)(v:α):N16 α:= @N16.rec α (λ_=>N16 α) (λc0 c1 c2 c3 c4 c5 c6 c7 c8 c9 c10 _ c12 c13 c14 c15=>⟨c0,c1,c2,c3,c4,c5,c6,c7,c8,c9,c10,v,c12,c13,c14,c15⟩) t
noncomputable def N16.u12(t:N16 α)(v:α):N16 α:= @N16.rec α (λ_=>N16 α) (λc0 c1 c2 c3 c4 c5 c6 c7 c8 c9 c10 c11 _ c13 c14 c15=>⟨c0,c1,c2,c3,c4,c5,c6,c7,c8,c9,c10,c11,v,c13,c14,c15⟩) t
noncomputable def N16.u13(t:N16 α)(v:α):N16 α:= @N16.rec α (λ_=>N16 α) (λc0 c1 c2 c3 c4 c5 c6 c7 c8 c9 c10 c11 c12 _ c14 c15=>⟨c0,c1,c2,c3,c4,c5,c6,c7,c8,c9,c10,c11,c12,v,c14,c15⟩) t
noncomputable def N16.u14(t:N16 α)(v:α):N16 α:= @N16.rec α (λ_=>N16 α) (λc0 c1 c2 c3 c4 c5 c6 c7 c8 c9 c10 c11 c12 c13 _ c15=>⟨c0,c1,c2,c3,c4,c5,c6,c7,c8,c9,c10,c11,c12,c13,v,c15⟩) t
noncomputable def N16.u15(t:N16 α)(v:α):N16 α:= @N16.rec α (λ_=>N16 α) (λc0 c1 c2 c3 c4 c5 c6 c7 c8 c9 c10 c11 c12 c13 c14 _=>⟨c0,c1,c2,c3,c4,c5,c6,c7,c8,c9,c10,c11,c12,c13,c14,v⟩) t
noncomputable def N16.get(t:N16 α)(d:D16):α:= @D16.rec (λ_=>N16 α->α) N16.c0 N16.c1 N16.c2 N16.c3 N16.c4 N16.c5 N16.c6 N16.c7 N16.c8 N16.c9 N16.c10 N16.c11 N16.c12 N16.c13 N16.c14 N16.c15 d t
noncomputable def N16.set(t:N16 α)(d:D16)(v:α):N16 α:= @D16.rec (λ_=>N16 α->α->N16 α) N16.u0 N16.u1 N16.u2 N16.u3 N16.u4 N16.u5 N16.u6 N16.u7 N16.u8 N16.u9 N16.u10 N16.u11 N16.u12 N16.u13 N16.u14 N16.u15 d t v
def N16.all(x:α):N16 α:=⟨x,x,x,x,x,x,x,x,x,x,x,x,x,x,x,x⟩
theorem N16.get_all(x:α)(d:D16):(N16.all x).get d=x:=by cases d<;>rfl
theorem N16.get_same(t:N16 α)(d:D16)(v:α):(t.set d v).get d=v:=by cases d<;>rfl
theorem N16.get_ne(t:N16 α){d d':D16}(v:α)(h:d≠d'):(t.set d v).get d'=t.get d':=by
 cases d<;>cases d'<;>first|rfl|exact absurd rfl h
end
noncomputable def D16.n(d:D16):Nat:= @D16.rec (λ_=>Nat) 0 1 2 3 4 5 6 7 8 9 10 11 12 13 14 15 d
def D16.of:Nat->D16
 |0=> .d0
 |1=> .d1
 |2=> .d2
 |3=> .d3
 |4=> .d4
 |5=> .d5
 |6=> .d6
 |7=> .d7
 |8=> .d8
 |9=> .d9
 |10=> .d10
 |11=> .d11
 |12=> .d12
 |13=> .d13
 |14=> .d14
 |_=> .d15
noncomputable def D16.next(d:D16):Option D16:= @D16.rec (λ_=>Option D16) (some .d1) (some .d2) (some .d3) (some .d4) (some .d5) (some .d6) (some .d7) (some .d8) (some .d9) (some .d10) (some .d11) (some .d12) (some .d13) (some .d14) (some .d15) none d
theorem D16.n_lt(d:D16):d.n<16:=by cases d<;>decide
theorem D16.of_n(d:D16):D16.of d.n=d:=by cases d<;>rfl
theorem D16.n_of{i:Nat}(h:i<16):(D16.of i).n=i:=by
 match i,h with
 |0,_=>rfl
 |1,_=>rfl
 |2,_=>rfl
 |3,_=>rfl
 |4,_=>rfl
 |5,_=>rfl
 |6,_=>rfl
 |7,_=>rfl
 |8,_=>rfl
 |9,_=>rfl
 |10,_=>rfl
 |11,_=>rfl
 |12,_=>rfl
 |13,_=>rfl
 |14,_=>rfl
 |15,_=>rfl
 |k+16,h=>omega
theorem D16.n_inj{d d':D16}(h:d.n=d'.n):d=d':=by rw[<-D16.of_n d,<-D16.of_n d',h]
theorem D16.next_some{d d':D16}(h:d.next=some d'):d'.n=d.n+1:=by
 cases d<;>first|(cases h;rfl)|cases h
theorem D16.next_none{d:D16}(h:d.next=none):d.n=15:=by cases d<;>first|rfl|cases h
structure Key where
 a:D16
 b:D16
 c:D16
 d:D16
 deriving DecidableEq
noncomputable def Key.num(k:Key):Nat:=100000+(((k.a.n*16+k.b.n)*16+k.c.n)*16+k.d.n)
theorem Key.num_inj{k k':Key}(h:k.num=k'.num):k=k':=by
 unfold Key.num at h;have ha:=k.a.n_lt;have hb:=k.b.n_lt;have hc:=k.c.n_lt;have hd:=k.d.n_lt
 have ha':=k'.a.n_lt;have hb':=k'.b.n_lt;have hc':=k'.c.n_lt;have hd':=k'.d.n_lt
 have e1:k.a=k'.a:=D16.n_inj (by omega);have e2:k.b=k'.b:=D16.n_inj (by omega);have e3:k.c=k'.c:=D16.n_inj (by omega);have e4:k.d=k'.d:=D16.n_inj (by omega);cases k;cases k';simp_all
theorem Key.num_ge(k:Key):100000<=k.num:=by unfold Key.num;omega
noncomputable def Key.succ(k:Key):Option Key:=
 @Key.rec (λ_=>Option Key) (λa b c d=>match d.next with
 |some d=>some ⟨a,b,c,d⟩
 |none=>match c.next with
  |some c=>some ⟨a,b,c,.d0⟩
  |none=>match b.next with
   |some b=>some ⟨a,b,.d0,.d0⟩
   |none=>match a.next with
    |some a=>some ⟨a,.d0,.d0,.d0⟩
    |none=>none) k
theorem Key.succ_num{k k':Key}(h:k.succ=some k'):k'.num=k.num+1:=by
 have e0:D16.n .d0=0:=rfl;obtain⟨ka,kb,kc,kd⟩:=k;unfold Key.succ at h;simp only at h;split at h
 .rename_i d hd
  cases h;have:=D16.next_some hd;simp only[Key.num,this];omega
 .rename_i hd
  have hd:=D16.next_none hd;split at h
  .rename_i c hc
   cases h;have:=D16.next_some hc;simp only[Key.num,this,hd,e0];omega
  .rename_i hc
   have hc:=D16.next_none hc;split at h
   .rename_i b hb
    cases h;have:=D16.next_some hb;simp only[Key.num,this,hd,hc,e0];omega
   .rename_i hb
    have hb:=D16.next_none hb;split at h
    .rename_i a ha
     cases h;have:=D16.next_some ha;simp only[Key.num,this,hd,hc,hb,e0];omega
    .cases h
abbrev M4(α:Type):=N16 (N16 (N16 (N16 (Option α))))
section
variable {α:Type}
noncomputable def mget(m:M4 α)(k:Key):Option α:= @Key.rec (λ_=>Option α) (λa b c d=>(((m.get a).get b).get c).get d) k
noncomputable def mset(m:M4 α)(k:Key)(v:Option α):M4 α:=
 @Key.rec (λ_=>M4 α) (λa b c d=>m.set a ((m.get a).set b (((m.get a).get b).set c ((((m.get a).get b).get c).set d v)))) k
def mnew:M4 α:=N16.all (N16.all (N16.all (N16.all none)))
theorem wL(k:Key):mget (mnew:M4 α) k=none:=by
 cases k;simp only[mget,mnew,N16.get_all]
theorem Lb(m:M4 α)(k:Key)(v:Option α):mget (mset m k v) k=v:=by
 cases k;simp only[mget,mset,N16.get_same]
theorem Q8(m:M4 α){k k':Key}(v:Option α)(h:k≠k'):mget (mset m k v) k'=mget m k':=by
 cases k with|mk a b c d=>
 cases k' with|mk a' b' c' d'=>
 simp only[mget,mset];by_cases ha:a=a'
 .subst ha
  rw[N16.get_same];by_cases hb:b=b'
  .subst hb
   rw[N16.get_same];by_cases hc:c=c'
   .subst hc
    rw[N16.get_same];by_cases hd:d=d'
    .subst hd;exact absurd rfl h
    .rw[N16.get_ne _ _ hd]
   .rw[N16.get_ne _ _ hc]
  .rw[N16.get_ne _ _ hb]
 .rw[N16.get_ne _ _ ha]
theorem vu(m:M4 α)(k k':Key)(v:Option α):mget (mset m k v) k'=if k=k' then v else mget m k':=by
 by_cases h:k=k'
 .subst h;rw[if_pos rfl,Lb]
 .rw[if_neg h,Q8 m v h]
end
inductive Sq (α:Type) where
 |e
 |n (x:α) (l r:Sq α)
section
variable {α:Type}
noncomputable def Sq.get(z:α)(t:Sq α):Nat->α:=
 @Sq.rec α (λ_=>Nat->α) (λ_=>z) (λx _ _ gl gr i=> @Nat.rec (λ_=>α) x (λj _=> @Bool.rec (λ_=>α) (gr (Nat.div j 2)) (gl (Nat.div j 2)) (Nat.beq (Nat.mod j 2) 0)) i) t
noncomputable def Sq.set(v:α)(t:Sq α):Nat->Sq α:=
 @Sq.rec α (λ_=>Nat->Sq α) (λ_=> .n v .e .e)
  (λx l r sl sr i=> @Nat.rec (λ_=>Sq α) (.n v l r) (λj _=> @Bool.rec (λ_=>Sq α) (.n x l (sr (Nat.div j 2))) (.n x (sl (Nat.div j 2)) r) (Nat.beq (Nat.mod j 2) 0)) i) t
inductive Br:Sq α->Nat->Prop where
 |e:Br .e 0
 |n {x:α} {l r:Sq α} {a b:Nat} (hl:Br l a) (hr:Br r b) (h1:b<=a) (h2:a<=b+1):Br (.n x l r) (a+b+1)
theorem Sq.get_e(z:α)(i:Nat):Sq.get z .e i=z:=rfl
theorem Sq.get_0(z x:α)(l r:Sq α):Sq.get z (.n x l r) 0=x:=rfl
theorem Sq.get_s(z x:α)(l r:Sq α)(j:Nat):Sq.get z (.n x l r) (j+1)=if j%2=0 then Sq.get z l (j/2)else Sq.get z r (j/2):=by
 show @Bool.rec (λ_=>α) (Sq.get z r (j/2)) (Sq.get z l (j/2)) (Nat.beq (j%2) 0)=_;by_cases h:j%2=0
 .rw[if_pos h,h];rfl
 .rw[if_neg h,js h]
theorem Sq.set_e(v:α)(i:Nat):Sq.set v .e i= .n v .e .e:=rfl
theorem Sq.set_0(v x:α)(l r:Sq α):Sq.set v (.n x l r) 0= .n v l r:=rfl
theorem Sq.set_s(v x:α)(l r:Sq α)(j:Nat):Sq.set v (.n x l r) (j+1)=if j%2=0 then .n x (Sq.set v l (j/2)) r else .n x l (Sq.set v r (j/2)):=by
 show @Bool.rec (λ_=>Sq α) (.n x l (Sq.set v r (j/2))) (.n x (Sq.set v l (j/2)) r) (Nat.beq (j%2) 0)=_;by_cases h:j%2=0
 .rw[if_pos h,h];rfl
 .rw[if_neg h,js h]
theorem Sq.get_set(z v:α): ∀{t:Sq α}{n:Nat},Br t n-> ∀{i:Nat},i<=n-> ∀i',Sq.get z (Sq.set v t i) i'=if i=i' then v else Sq.get z t i':=by
 intro t n h
 induction h with
 |e=>
  intro i hi i';have:i=0:=by omega
  subst this;rw[Sq.set_e]
  cases i' with
  |zero=>rfl
  |succ j=>rw[Sq.get_s];simp only[Sq.get_e];split<;>simp
 | @n x l r a b hl hr h1 h2 il ir=>
  intro i hi i'
  cases i with
  |zero=>
   rw[Sq.set_0]
   cases i' with
   |zero=>rfl
   |succ j=>rw[Sq.get_s,Sq.get_s,if_neg (by omega: ¬0=j+1)]
  |succ j=>
   rw[Sq.set_s];by_cases hj:j%2=0
   .rw[if_pos hj]
    cases i' with
    |zero=>rw[Sq.get_0,Sq.get_0,if_neg (by omega)]
    |succ j'=>
     rw[Sq.get_s,Sq.get_s];by_cases hj':j'%2=0
     .rw[if_pos hj',if_pos hj',il (by omega)]
      by_cases e:j=j'
      .subst e;simp
      .rw[if_neg (by omega),if_neg (by omega)]
     .rw[if_neg hj',if_neg hj',if_neg (by omega)]
   .rw[if_neg hj]
    cases i' with
    |zero=>rw[Sq.get_0,Sq.get_0,if_neg (by omega)]
    |succ j'=>
     rw[Sq.get_s,Sq.get_s];by_cases hj':j'%2=0
     .rw[if_pos hj',if_pos hj',if_neg (by omega)]
     .rw[if_neg hj',if_neg hj',ir (by omega)]
      by_cases e:j=j'
      .subst e;simp
      .rw[if_neg (by omega),if_neg (by omega)]
theorem Br.set(v:α): ∀{t:Sq α}{n:Nat},Br t n-> ∀{i:Nat},i<n->Br (Sq.set v t i) n:=by
 intro t n h
 induction h with
 |e=>intro i hi;omega
 | @n x l r a b hl hr h1 h2 il ir=>
  intro i hi
  cases i with
  |zero=>exact .n hl hr h1 h2
  |succ j=>
   rw[Sq.set_s];by_cases hj:j%2=0
   .rw[if_pos hj];exact .n (il (by omega)) hr h1 h2
   .rw[if_neg hj];exact .n hl (ir (by omega)) h1 h2
theorem Br.push(v:α): ∀{t:Sq α}{n:Nat},Br t n->Br (Sq.set v t n) (n+1):=by
 intro t n h
 induction h with
 |e=>exact .n (a:=0) (b:=0) .e .e (by omega) (by omega)
 | @n x l r a b hl hr h1 h2 il ir=>
  rw[Sq.set_s];by_cases hj:(a+b)%2=0
  .have e:a=b:=by omega
   have e2:(a+b)/2=a:=by omega
   rw[if_pos hj,e2];have:=Br.n (x:=x) il hr (by omega) (by omega)
   rwa [show a+b+1+1=a+1+b+1 by omega]
  .have e:a=b+1:=by omega
   have e2:(a+b)/2=b:=by omega
   rw[if_neg hj,e2];have:=Br.n (x:=x) hl ir (by omega) (by omega)
   rwa [show a+b+1+1=a+(b+1)+1 by omega]
noncomputable def Sq.pushL(t:Sq α)(n:Nat):List α->Sq α
 |[]=>t
 |v::r=>Sq.pushL (Sq.set v t n) (n+1) r
theorem Br.pushL: ∀{l:List α}{t:Sq α}{m:Nat},Br t m->Br (Sq.pushL t m l) (m+l.length)
 |[],_,_,h=>h
 |v::r,t,m,h=>by
  have:=Br.pushL (l:=r) (h.push v)
  rwa [show m+1+r.length=m+(v::r).length by simp;omega]at this
theorem Sq.get_pushL(z:α): ∀{l:List α}{t:Sq α}{m:Nat},Br t m-> ∀i,Sq.get z (Sq.pushL t m l) i=if i<m then Sq.get z t i else if i<m+l.length then l.getD (i-m) z else Sq.get z t i
 |[],t,m,h,i=>by
  simp only[Sq.pushL,q59,q5t];split<;>simp_all
 |v::r,t,m,h,i=>by
  rw[Sq.pushL,Sq.get_pushL z (h.push v),Sq.get_set z v h (q5B m)];simp only[q56];rcases Nat.lt_trichotomy i m with h1|h1|h1
  .rw[if_pos (show i<m+1 by omega),if_pos h1,if_neg (show¬m=i by omega)]
  .subst h1
   rw[if_pos (show i<i+1 by omega),if_neg (show¬i<i by omega),if_pos (show i<i+(r.length+1) by omega),if_pos rfl];simp
  .rw[if_neg (show¬i<m+1 by omega),if_neg (show¬i<m by omega),if_neg (show¬m=i by omega)]
   by_cases h2:i<m+1+r.length
   .rw[if_pos h2,if_pos (show i<m+(r.length+1) by omega),show i-m=i-(m+1)+1 by omega];simp
   .rw[if_neg h2,if_neg (show¬i<m+(r.length+1) by omega)]
noncomputable def Sq.toL(z:α)(t:Sq α):Nat->Nat->List α
 |_,0=>[]
 |i,k+1=>Sq.get z t i::Sq.toL z t (i+1) k
theorem Sq.toL_len(z:α)(t:Sq α): ∀k i,(Sq.toL z t i k).length=k
 |0,_=>rfl
 |k+1,i=>by simp[Sq.toL,Sq.toL_len z t k]
theorem Sq.toL_get(z:α)(t:Sq α): ∀k i j,j<k->(Sq.toL z t i k).getD j z=Sq.get z t (i+j)
 |k+1,i,0,_=>rfl
 |k+1,i,j+1,h=>by
  have:=Sq.toL_get z t k (i+1) j (by omega);simp only[Sq.toL,List.getD_cons_succ,this]
  congr 1;omega
noncomputable def Sq.overL(t:Sq α)(i:Nat):List α->Sq α
 |[]=>t
 |v::r=>Sq.overL (Sq.set v t i) (i+1) r
theorem Br.overL: ∀{l:List α}{t:Sq α}{m i:Nat},Br t m->i+l.length<=m->Br (Sq.overL t i l) m
 |[],_,_,_,h,_=>h
 |v::r,t,m,i,h,hi=>Br.overL (l:=r) (h.set v (by simp at hi;omega)) (by simp at hi;omega)
theorem Sq.get_overL(z:α): ∀{l:List α}{t:Sq α}{m i:Nat},Br t m->i+l.length<=m-> ∀j,Sq.get z (Sq.overL t i l) j=if i<=j/\j<i+l.length then l.getD (j-i) z else Sq.get z t j
 |[],t,m,i,h,hi,j=>by
  simp only[Sq.overL,q59,q5t];rw[if_neg (by omega)]
 |v::r,t,m,i,h,hi,j=>by
  simp only[q56]at hi;rw[Sq.overL,Sq.get_overL z (h.set v (by omega)) (by omega),Sq.get_set z v h (by omega)];simp only[q56];rcases Nat.lt_trichotomy j i with h1|h1|h1
  .rw[if_neg (by omega),if_neg (by omega),if_neg (by omega)]
  .subst h1;rw[if_neg (by omega),if_pos rfl,if_pos (by omega)];simp
  .by_cases h2:j<i+(r.length+1)
   .rw[if_pos (by omega),if_pos (by omega),show j-i=j-(i+1)+1 by omega];simp
   .rw[if_neg (by omega),if_neg (by omega),if_neg (by omega)]
end
noncomputable section
inductive V where
 |und
 |nn (k:IntKind) (n:Nat)
 |zz (k:IntKind) (n:Nat)
 |bb (x:Bool)
 |st (l:List Nat)
 |qq (s:Bool) (n d:Nat)
 |mg (n:Nat)
 |uu (v:Value)
 |pp (k:Key) (o:Nat)
 |ee (k:Key) (i o w:Nat)
 |sl (k:Key) (lo n c w:Nat)
 |gs (k:Key) (lo n w:Nat)
 |mm (k:Key)
 |cl (f:FuncId) (ps:List (Key×Nat))
 |bf (f:FuncId) (w:Nat) (l:List V)
 |dl
 |lp (n i:Nat)
 |em
 |ag (w:Nat) (l:List V)
 |tu (l:List V)
def strV(l:List Nat):Value:= .string ⟨(l.map UInt8.ofNat).toArray⟩
def diC(D:List Int):List CAtom:=D.map λz=> .val (.int .i64 z)
def emP:Pred where
 p H v:= ∃a c,v= .slice (some a) 0 c
 mono:=λ_ h=>h
 one:=by rintro H v ⟨a,c,rfl⟩;rfl
def diP(D:List Int):Pred:=flP (diC D) D.length
def V.p1:V->Option (List CAtom)
 | .nn k n=>some [.val (.int k (n:Int))]
 | .zz k n=>some [.val (.int k (Int.negSucc n))]
 | .bb x=>some [.val (.bool x)]
 | .st l=>some [.val (strV l)]
 | .mg n=>some [.abs (natP n)]
 | .qq s n d=>some [.val (.bool s),.abs (natP n),.abs (denP d)]
 |_=>none
def allP(l:List V):Bool:=l.all λv=>v.p1.isSome
def pA(l:List V):List CAtom:=l.flatMap λv=>v.p1.getD []
def bfP(f:FuncId)(l:List V):Pred where
 p H v:=allP l=true/\ ∃arr:Array Value,v= .func (.func f) #[.agg arr] #[]/\CSats H (pA l) arr.toList
 mono:=λh⟨h0,arr,h1,h2⟩=>⟨h0,arr,h1,CSats.mono h h2⟩
 one:=by rintro H v ⟨_,arr,rfl,_⟩;rfl
def V.a1(D:List Int):V->Atom
 | .nn k n=> .val (.int k (n:Int))
 | .zz k n=> .val (.int k (Int.negSucc n))
 | .bb x=> .val (.bool x)
 | .st l=> .val (strV l)
 | .mg n=> .abs (natP n)
 | .uu v=> .val v
 | .pp k o=> .loc k.num o
 | .ee k i o w=> .loc k.num (i*w+o)
 | .sl k lo n c w=> .sl k.num (lo*w) n c
 | .gs k lo n w=> .ks k.num (lo*w) lo n
 | .mm k=> .mp k.num
 | .cl f ps=> .clo f (ps.map λp=>(p.1.num,p.2))
 | .bf f _ l=> .abs (bfP f l)
 | .dl=> .abs (diP D)
 | .lp n i=> .ptr ((Mk (limbs n)).drop i)
 | .em=> .abs emP
 |_=> .val undef
def V.c1(D:List Int):V->List Atom
 | .qq s n d=>[.val (.bool s),.abs (natP n),.abs (denP d)]
 | .und=>[]| .ag _ _=>[]| .tu _=>[]
 |v=>[v.a1 D]
def V.wd:V->Nat
 | .qq _ _ _=>3
 | .und=>0| .ag _ _=>0| .tu _=>0
 |_=>1
def cs(D:List Int)(l:List V):List Atom:=l.flatMap (V.c1 D)
def wds(l:List V):Nat:=(l.map V.wd).sum
def V.un:V->Bool
 | .und=>false| .ag _ _=>false| .tu _=>false
 |_=>true
def V.on:V->Bool
 | .und=>false| .ag _ _=>false| .tu _=>false| .qq _ _ _=>false
 |_=>true
def QWF(s:Bool)(n d:Nat):Prop:=d≠0/\Nat.gcd n d=1/\(s=true->n≠0)
def V.okP:V->Prop
 | .qq s n d=>QWF s n d
 | .st l=> ∀b∈l,b<256
 |_=>True
def V.ok1:V->Prop
 | .qq s n d=>QWF s n d
 | .uu v=>v.oneC=true
 | .st l=> ∀b∈l,b<256
 | .bf _ w l=>w=wds l/\ ∀x∈l,x.p1.isSome=true/\x.okP
 |_=>True
def okL(l:List V):Prop:= ∀x∈l,x.un=true/\x.ok1
def V.okC:V->Prop
 | .ag w l=>w=wds l/\okL l
 | .und=>False
 | .tu _=>False
 |v=>v.ok1
def V.ok:V->Prop
 | .tu l=> ∀x∈l,x.okC
 | .und=>True
 |v=>v.okC
def V.cells(D:List Int):V->List Atom
 | .ag _ l=>cs D l
 |v=>v.c1 D
def V.cmp(D:List Int):V->Cmp
 | .qq s n d=> .agg [.val (.bool s),.abs (natP n),.abs (denP d)]
 | .ag _ l=> .agg (cs D l)
 |v=> .one (v.a1 D)
def V.av(D:List Int):V->Option AV
 | .und=>none
 | .tu l=>some (.tup (l.map (V.cmp D)))
 |v=>some (.c (v.cmp D))
def V.size:V->Nat
 | .ag w _=>w
 |v=>v.wd
section
variable {D:List Int}
theorem V.c1_len(v:V):(v.c1 D).length=v.wd:=by cases v<;>rfl
theorem wm: ∀l:List V,(cs D l).length=wds l
 |[]=>rfl
 |v::r=>by
  have:=wm r;unfold cs wds at*;simp[V.c1_len,this]
theorem Tn(l r:List V):cs D (l++r)=cs D l++cs D r:=by simp[cs]
theorem QT(l r:List V):wds (l++r)=wds l+wds r:=by simp[wds]
theorem vE(v:V)(r:List V):cs D (v::r)=v.c1 D++cs D r:=by simp[cs]
theorem zM(v:V)(r:List V):wds (v::r)=v.wd+wds r:=by simp[wds]
theorem vw{v:V}{r:List V}:okL (v::r)↔(v.un=true/\v.ok1)/\okL r:=by simp[okL]
theorem DQ{l r:List V}:okL (l++r)↔okL l/\okL r:=by
 simp only[okL,q5c];exact⟨λh=>⟨λx hx=>h x (.inl hx),λx hx=>h x (.inr hx)⟩,λh x hx=>hx.elim (h.1 x) (h.2 x)⟩
theorem GI:okL []:=λx hx=>by simp at hx
theorem Md{v:V}(h:v.p1.isSome=true):v.un=true/\(v.okP↔v.ok1)/\v.c1 D=(v.p1.getD []).map CAtom.up:=by
 cases v<;>first|exact⟨rfl,Iff.rfl,rfl⟩|cases h
theorem S6: ∀{l:List V},allP l=true->cs D l=(pA l).map CAtom.up
 |[],_=>rfl
 |x::l,h=>by
  unfold allP at h;rw[List.all_cons,q4L]at h;have ih:=S6 (l:=l) h.2;have e:pA (x::l)=x.p1.getD []++pA l:=by simp[pA]
  have e2:cs D (x::l)=x.c1 D++cs D l:=by simp[cs]
  rw[e,e2,List.map_append,ih,(Md (D:=D) h.1).2.2]
theorem V.on_un{v:V}(h:v.on=true):v.un=true:=by cases v<;>first|rfl|cases h
theorem V.on_wd{v:V}(h:v.on=true):v.wd=1:=by cases v<;>first|rfl|cases h
theorem V.on_c1{v:V}(h:v.on=true):v.c1 D=[v.a1 D]:=by cases v<;>first|rfl|cases h
theorem V.on_cmp{v:V}(h:v.on=true):v.cmp D= .one (v.a1 D):=by cases v<;>first|rfl|cases h
theorem V.on_okC{v:V}(h:v.on=true):v.okC↔v.ok1:=by cases v<;>first|exact Iff.rfl|cases h
theorem V.un_okC{v:V}(h:v.un=true):v.okC↔v.ok1:=by cases v<;>first|exact Iff.rfl|cases h
theorem V.un_cells{v:V}(h:v.un=true):v.cells D=v.c1 D:=by cases v<;>first|rfl|cases h
theorem V.okC_cells{v:V}(h:v.okC):(v.cmp D).cells=v.cells D:=by
 cases v<;>first|rfl|exact h.elim
theorem V.okC_ok{v:V}(h:v.okC):v.ok:=by cases v<;>first|exact h|exact h.elim
theorem V.okC_av{v:V}(h:v.okC):v.av D=some (.c (v.cmp D)):=by cases v<;>first|rfl|exact h.elim
theorem V.okC_size{v:V}(h:v.okC):(v.cells D).length=v.size:=by
 cases v with
 |ag w l=>rw[show(V.ag w l).cells D=cs D l from rfl,wm];exact h.1.symm
 |_=>first|rfl|exact h.elim
def V.us:V->List V
 | .ag _ l=>l
 |v=>[v]
theorem V.us_cells{v:V}(h:v.okC):cs D v.us=v.cells D:=by
 cases v with
 |ag w l=>rfl
 |und=>exact h.elim
 |tu l=>exact h.elim
 |_=>simp[V.us,cs,V.cells]
theorem V.us_ok{v:V}(h:v.okC):okL v.us:=by
 cases v with
 |ag w l=>exact h.2
 |und=>exact h.elim
 |tu l=>exact h.elim
 |_=>exact λx hx=>by simp[V.us]at hx;subst hx;exact⟨rfl,h⟩
theorem V.us_wds{v:V}(h:v.okC):wds v.us=v.size:=by
 rw[<-wm (D:=[]),V.us_cells h,V.okC_size h]
def qsp(s:Bool)(n d:Nat):List V:=[.bb s,.mg n,.mg (if d=1 then 0 else d)]
theorem YX(d:Nat):denP d=natP (if d=1 then 0 else d):=by
 unfold denP natP denL;split<;>rfl
theorem q2s(s:Bool)(n d:Nat):cs D (qsp s n d)=(V.qq s n d).c1 D:=by
 show[Atom.val (.bool s),.abs (natP n),.abs (natP (if d=1 then 0 else d))]=[.val (.bool s),.abs (natP n),.abs (denP d)];rw[YX]
theorem q2t(s:Bool)(n d:Nat):okL (qsp s n d):=λx hx=>by
 simp only[qsp,q5d,q5l,or_false]at hx;rcases hx with rfl|rfl|rfl<;>exact⟨rfl,trivial⟩
noncomputable def cut (l : List V) : Nat -> Option (List V × List V) :=
 @List.rec V (λ_ => Nat -> Option (List V × List V)) (λo => @Nat.rec (λ_ => Option (List V × List V)) (some ([], [])) (λ_ _ => none) o)
  (λv r ih o => @Nat.rec (λ_ => Option (List V × List V)) (some ([], v :: r))
   (λ_ _ => @Bool.rec (λ_ => Option (List V × List V))
    (match v with
     | .qq s n d => (match o with
      | 1 => some ([.bb s], .mg n :: .mg (if d = 1 then 0 else d) :: r)
      | 2 => some ([.bb s, .mg n], .mg (if d = 1 then 0 else d) :: r)
      | _ => none)
     | _ => none)
    (match ih (Nat.sub o v.wd) with | some (a, c) => some (v :: a, c) | none => none)
    (Nat.ble v.wd o)) o) l
theorem YV(o:Nat):cut [] o=if o=0 then some ([],[])else none:=by cases o<;>rfl
theorem An(l:List V):cut l 0=some ([],l):=by cases l<;>rfl
theorem MZ (v : V) (r : List V) (o : Nat) : cut (v :: r) (o + 1) = if v.wd <= o + 1 then (match cut r (o + 1 - v.wd) with | some (a, c) => some (v :: a, c) | none => none)
    else (match v with
          | .qq s n d => (match o + 1 with
            | 1 => some ([.bb s], .mg n :: .mg (if d = 1 then 0 else d) :: r)
            | 2 => some ([.bb s, .mg n], .mg (if d = 1 then 0 else d) :: r)
            | _ => none)
          | _ => none) := by
  by_cases h : v.wd <= o + 1
  · rw [if_pos h]
    have : Nat.ble v.wd (o + 1) = true := by simpa using h
    show @Bool.rec (λ_ => Option (List V × List V)) _ _ (Nat.ble v.wd (o + 1)) = _;rw [this]; rfl
  · rw [if_neg h]
    have : Nat.ble v.wd (o + 1) = false := by
      cases hb : Nat.ble v.wd (o + 1) with
      | false => rfl
      | true => exact absurd (q5y hb) h
    show @Bool.rec (λ_ => Option (List V × List V)) _ _ (Nat.ble v.wd (o + 1)) = _;rw [this]
theorem Hq: ∀{l:List V}{o:Nat}{a c:List V},cut l o=some (a,c)->cs D l=cs D a++cs D c/\wds a=o/\(okL l->okL a/\okL c)
 |[],o,a,c,h=>by
  rw[YV]at h;split at h
  .rename_i ho;cases h;exact⟨rfl,ho.symm,λ_=>⟨GI,GI⟩⟩
  .cases h
 |v::r,0,a,c,h=>by
  rw[An]at h;cases h
  exact⟨rfl,rfl,λh=>⟨GI,h⟩⟩
 |v::r,o+1,a,c,h=>by
  rw[MZ]at h;split at h
  .rename_i hw
   split at h
   .rename_i a' c' h'
    cases h;obtain⟨h1,h2,h3⟩:=Hq h';refine⟨by rw[vE,vE,h1,q4R],by rw[zM,h2];omega,λhk=>?_⟩;obtain⟨k1,k2⟩:=vw.1 hk;exact⟨vw.2 ⟨k1,(h3 k2).1⟩,(h3 k2).2⟩
   .cases h
  .rename_i hw
   have key: ∀s n d,cs D (V.qq s n d::r)=cs D [.bb s,.mg n,.mg (if d=1 then 0 else d)]++cs D r:=by
    intro s n d;rw[vE,<-q2s];rfl
   have kok: ∀s n d,okL (V.qq s n d::r)->okL (qsp s n d++r):=λs n d hk=>DQ.2 ⟨q2t s n d,(vw.1 hk).2⟩
   split at h
   .rename_i s n d
    split at h
    .rename_i e
     cases h;refine⟨by rw[key];simp[cs],by rw[e];rfl,λhk=>?_⟩;have:=kok s n d hk;exact(DQ (l:=[.bb s])).1 this
    .rename_i e
     cases h;refine⟨by rw[key];simp[cs],by rw[e];rfl,λhk=>?_⟩;have:=kok s n d hk;exact(DQ (l:=[.bb s,.mg n])).1 this
    .cases h
   .cases h
noncomputable def carve(l:List V)(o s:Nat):Option (List V×List V×List V):=
 match cut l o with
 |some (a,c)=>match cut c s with
  |some (m,r)=>some (a,m,r)
  |none=>none
 |none=>none
theorem jq{l:List V}{o s:Nat}{a m r:List V}(h:carve l o s=some (a,m,r)):
  cs D l=cs D a++(cs D m++cs D r)/\wds a=o/\wds m=s/\(okL l->okL a/\okL m/\okL r):=by
 unfold carve at h;split at h
 .rename_i a' c h1
  split at h
  .rename_i m' r' h2
   cases h;obtain⟨e1,e2,e3⟩:=Hq h1;obtain⟨f1,f2,f3⟩:=Hq h2;exact⟨by rw[e1,f1],e2,f2,λhk=>⟨(e3 hk).1,(f3 (e3 hk).2).1,(f3 (e3 hk).2).2⟩⟩
  .cases h
 .cases h
theorem z7{l:List V}{o s:Nat}{a m r:List V}(h:carve l o s=some (a,m,r)):((cs D l).drop o).take s=cs D m/\o+s<=(cs D l).length:=by
 obtain⟨h1,h2,h3,_⟩:=jq (D:=D) h;rw[h1];have e1:(cs D a).length=o:=by rw[wm,h2]
 have e2:(cs D m).length=s:=by rw[wm,h3]
 refine⟨?_,by simp only[q55];omega⟩;rw[List.drop_append_of_le_length (by omega),q4T (by omega),q5k,q5m (by omega),q5o (by omega)]
theorem By{l:List V}{o s:Nat}{a m r:List V}(h:carve l o s=some (a,m,r)){x:List V}(hx:wds x=s):spl (cs D l) o (cs D x)=cs D (a++(x++r)):=by
 obtain⟨h1,h2,h3,_⟩:=jq (D:=D) h;have e1:(cs D a).length=o:=by rw[wm,h2]
 have e2:(cs D m).length=s:=by rw[wm,h3]
 have e3:(cs D x).length=s:=by rw[wm,hx]
 unfold spl;rw[h1,e3,Tn,Tn]
 congr 1
 .rw[q5m (by omega),q5o (by omega)]
 .congr 1
  rw[<-q4R,List.drop_append_of_le_length (by simp only[q55];omega),q4T (by simp only[q55];omega),q5k]
def mkA(s:Nat)(l:List V):V:=
 match l with
 |[.qq a b c]=> .qq a b c
 |_=> .ag s l
def mkO(l:List V):V:=
 match l with
 |[v]=> @Bool.rec (λ_=>V) .und v v.on
 |_=> .und
def mkV(g:Bool)(s:Nat)(l:List V):V:= @Bool.rec (λ_=>V) (mkO l) (mkA s l) g
theorem HJ{s:Nat}{l:List V}(hs:wds l=s)(hk:okL l):(mkA s l).okC/\(mkA s l).cmp D= .agg (cs D l):=by
 unfold mkA;split
 .rename_i a b c
  exact⟨(vw.1 hk).1.2,by simp[V.cmp,cs,V.c1]⟩
 .exact⟨⟨hs.symm,hk⟩,rfl⟩
theorem NB{l:List V}{v:V}(h:mkO l=v)(hv:v≠ .und)(hk:okL l):v.okC/\v.on=true/\cs D l=[v.a1 D]/\wds l=1:=by
 unfold mkO at h;split at h
 .rename_i x
  cases ho:x.on with
  |false=>rw[ho]at h;exact absurd h.symm hv
  |true=>
   rw[ho]at h;subst h;exact⟨(V.on_okC ho).2 (vw.1 hk).1.2,ho,by simp[cs,V.on_c1 ho],by simp[wds,V.on_wd ho]⟩
 .exact absurd h.symm hv
end
end
noncomputable section
def flat(D:List Int)(L:List V):List Atom:=L.flatMap (V.cells D)
def okE(es:Nat)(L:List V):Prop:= ∀x∈L,x.okC/\x.size=es
section
variable {D:List Int}
theorem jK{es:Nat}: ∀{L:List V},okE es L->(flat D L).length=L.length*es
 |[],_=>by simp[flat]
 |x::r,h=>by
  have h1:=h x q5f;have:=jK (es:=es) (L:=r) λy hy=>h y (q5e _ hy)
  unfold flat at this⊢;rw[q4W,q55,this,V.okC_size h1.1,h1.2,q56,q5V];omega
theorem Aq(L L':List V):flat D (L++L')=flat D L++flat D L':=by simp[flat]
theorem GH{es:Nat}{L L':List V}:okE es (L++L')↔okE es L/\okE es L':=by
 simp only[okE,q5c];exact⟨λh=>⟨λx hx=>h x (.inl hx),λx hx=>h x (.inr hx)⟩,λh x hx=>hx.elim (h.1 x) (h.2 x)⟩
theorem At{es:Nat}{L:List V}(h:okE es L)(i:Nat):okE es (L.take i):=λx hx=>h x (q5i hx)
theorem HO{es:Nat}{L:List V}(h:okE es L)(i:Nat):okE es (L.drop i):=λx hx=>h x (List.mem_of_mem_drop hx)
theorem Fp{es:Nat}{L:List V}(h:okE es L)(i:Nat)(hi:i<=L.length):(flat D L).drop (i*es)=flat D (L.drop i):=by
 conv=>lhs;rw[<-List.take_append_drop i L,Aq]
 have:(flat D (L.take i)).length=i*es:=by rw[jK (At h i),q5a,q5G hi]
 rw[List.drop_append_of_le_length (by omega),q4T (by omega),q5k]
theorem Fq{es:Nat}{L:List V}(h:okE es L)(i:Nat)(hi:i<=L.length):(flat D L).take (i*es)=flat D (L.take i):=by
 conv=>lhs;rw[<-List.take_append_drop i L,Aq]
 have:(flat D (L.take i)).length=i*es:=by rw[jK (At h i),q5a,q5G hi]
 rw[q5m (by omega),q5o (by omega)]
theorem B6{es:Nat}{L:List V}(h:okE es L){i o s:Nat}{x:V}(hx:L[i]?=some x)(ho:o+s<=es):((flat D L).drop (i*es+o)).take s=((x.cells D).drop o).take s/\i*es+o+s<=(flat D L).length:=by
 have hi:i<L.length:=(List.getElem?_eq_some_iff.1 hx).1;have hl:=jK (D:=D) h;have h2:(i+1)*es<=L.length*es:=q5O _ hi;rw[q5V]at h2;refine⟨?_,by omega⟩;rw[<-q4S,Fp h i (by omega)];have hxm:=h x (q5h hx);have hxl:(x.cells D).length=es:=by rw[V.okC_size hxm.1,hxm.2]
 have e:L.drop i=x::L.drop (i+1):=by
  rw[List.drop_eq_getElem_cons hi];rw[q51 hi]at hx;cases hx;rfl
 have e2:flat D (L.drop i)=x.cells D++flat D (L.drop (i+1)):=by rw[e];simp[flat]
 rw[e2,List.drop_append_of_le_length (by omega),q5m (by rw[q57];omega)]
theorem Hv{es:Nat}{L:List V}(h:okE es L){i o:Nat}{x y:V}{u:List Atom}(hx:L[i]?=some x)(hu:o+u.length<=es)(hy:spl (x.cells D) o u=y.cells D):
  spl (flat D L) (i*es+o) u=flat D (L.set i y):=by
 have hi:i<L.length:=(List.getElem?_eq_some_iff.1 hx).1;have hxm:=h x (q5h hx);have hxl:(x.cells D).length=es:=by rw[V.okC_size hxm.1,hxm.2]
 have e:L.drop i=x::L.drop (i+1):=by
  rw[List.drop_eq_getElem_cons hi];rw[q51 hi]at hx;cases hx;rfl
 have e2:flat D L=flat D (L.take i)++(x.cells D++flat D (L.drop (i+1))):=by
  conv=>lhs;rw[<-List.take_append_drop i L,e]
  simp[flat]
 have e3:(flat D (L.take i)).length=i*es:=by rw[jK (At h i),q5a,q5G (by omega)]
 have e4:flat D (L.set i y)=flat D (L.take i)++(y.cells D++flat D (L.drop (i+1))):=by
  rw[List.set_eq_take_append_cons_drop,if_pos hi];simp[flat]
 rw[e4,<-hy,e2];unfold spl;rw[List.take_append,q5o (by omega),e3,show i*es+o-i*es=o by omega,q5m (by omega),q4R,q4R,q4R]
 congr 3
 rw[List.drop_append,q4T (by omega),q5k,e3,show i*es+o+u.length-i*es=o+u.length by omega,List.drop_append_of_le_length (by omega)]
end
theorem v7{α:Type}(z:α)(t:Sq α){n i:Nat}(h:i<n):(Sq.toL z t 0 n)[i]?=some (Sq.get z t i):=by
 have:=Sq.toL_get z t n 0 i h;rw[q5W]at this;rw[<-this,q4X];have hl:i<(Sq.toL z t 0 n).length:=by rw[Sq.toL_len];exact h
 rw[q51 hl];rfl
theorem Kr{α:Type}{z:α}{t:Sq α}{n:Nat}{L:List α}(hl:L.length=n)(h: ∀i,i<n->L[i]?=some (Sq.get z t i)):Sq.toL z t 0 n=L:=by
 apply List.ext_getElem?;intro i;by_cases hi:i<n
 .rw[v7 z t hi,h i hi]
 .rw[q52 (by rw[Sq.toL_len];omega),q52 (by omega)]
theorem GU{α:Type}(z v:α){t:Sq α}{n i:Nat}(h:Br t n)(hi:i<n):Sq.toL z (Sq.set v t i) 0 n=(Sq.toL z t 0 n).set i v:=by
 refine Kr (by simp[Sq.toL_len]) λj hj=>?_
 rw[Sq.get_set z v h (by omega),List.getElem?_set,Sq.toL_len];by_cases e:i=j
 .subst e;rw[if_pos rfl,if_pos hj,if_pos rfl]
 .rw[if_neg e,if_neg e,v7 z t hj]
theorem LA{α:Type}(z:α){t:Sq α}{n:Nat}(h:Br t n)(l:List α):Sq.toL z (Sq.pushL t n l) 0 (n+l.length)=Sq.toL z t 0 n++l:=by
 refine Kr (by simp[Sq.toL_len]) λj hj=>?_
 rw[Sq.get_pushL z h];by_cases h1:j<n
 .rw[if_pos h1,List.getElem?_append_left (by rw[Sq.toL_len];exact h1),v7 z t h1]
 .rw[if_neg h1,if_pos hj,List.getElem?_append_right (by rw[Sq.toL_len];omega),Sq.toL_len,q4X]
  rw[q51 (by omega)];rfl
theorem AX{α:Type}(z:α)(l:List α):Sq.toL z (Sq.pushL .e 0 l) 0 l.length=l:=by
 have:=LA z (Br.e (α:=α)) l;rw[q5W]at this;rw[this];rfl
theorem Lz{α:Type}(z:α){t:Sq α}{n i:Nat}(h:Br t n)(l:List α)(hi:i+l.length<=n):Sq.toL z (Sq.overL t i l) 0 n=(Sq.toL z t 0 n).take i++(l++(Sq.toL z t 0 n).drop (i+l.length)):=by
 refine Kr (by simp[Sq.toL_len];omega) λj hj=>?_
 rw[Sq.get_overL z h hi];have hln:(Sq.toL z t 0 n).length=n:=Sq.toL_len _ _ _ _;by_cases h1:j<i
 .rw[if_neg (by omega),List.getElem?_append_left (by rw[q5a];omega),q53 h1,v7 z t hj]
 .rw[List.getElem?_append_right (by rw[q5a];omega),q5a,q5G (by omega)]
  by_cases h2:j<i+l.length
  .rw[if_pos ⟨by omega,h2⟩,List.getElem?_append_left (by omega),q4X,q51 (by omega)];rfl
  .rw[if_neg (by omega),List.getElem?_append_right (by omega),q50,show i+l.length+(j-i-l.length)=j by omega,v7 z t hj]
theorem Ov{α:Type}(z:α)(t:Sq α){lo n:Nat}: ∀{k},lo+n<=k->((Sq.toL z t 0 k).drop lo).take n=Sq.toL z t lo n:=by
 intro k h;apply List.ext_getElem?;intro i;by_cases hi:i<n
 .rw[q53 hi,q50,v7 z t (by omega)]
  have:=Sq.toL_get z t n lo i hi;rw[<-this,q4X];have hl:i<(Sq.toL z t lo n).length:=by rw[Sq.toL_len];exact hi
  rw[q51 hl];rfl
 .rw[q52 (by rw[q5a,q57,Sq.toL_len];omega),q52 (by rw[Sq.toL_len];omega)]
inductive KB where
 |bx (v:V)
 |arr (es n:Nat) (t:Sq V)
 |gro (es n:Nat) (t:Sq V)
 |mp (s:Nat) (l:List (V×V))
 |di (j:Nat)
def V.v1:V->Option Value
 | .nn k n=>some (.int k (n:Int))
 | .zz k n=>some (.int k (Int.negSucc n))
 | .bb x=>some (.bool x)
 | .st l=>some (strV l)
 | .uu v=>some v
 |_=>none
def v1s:List V->Option (List Value)
 |[]=>some []
 |x::r=>match x.v1 with
  |some v=>match v1s r with
   |some l=>some (v::l)
   |none=>none
  |none=>none
def V.val:V->Option Value
 | .ag _ l=>match v1s l with|some vs=>some (.agg vs.toArray)|none=>none
 |v=>v.v1
def valD(v:V):Value:=v.val.getD undef
def kInt(v:V):Prop:=match v with| .nn .i64 n=>n<=4611686018427387904| .zz .i64 n=>n<4611686018427387904|_=>False
def kOk(s:Nat)(k:V):Prop:=match s,k with
 |1,.st l=>(∀b∈l,b<256)/\l.length<=1000000
 |0,.ag 2 [a,b]=>kInt a/\kInt b
 |2,k=>kInt k
 |_,_=>False
def KB.L:KB->List V
 | .arr _ n t=>Sq.toL .und t 0 n
 | .gro _ n t=>Sq.toL .und t 0 n
 |_=>[]
def groB(es:Nat)(cs:List Atom):Blk:=match cs with|[]=> .rigid []|a::l=> .grow es (a::l)
theorem JN(es:Nat)(cs:List Atom):groB es cs= .rigid cs\/groB es cs= .grow es cs:=by cases cs<;>first|exact .inl rfl|exact .inr rfl
theorem Hx{es:Nat}{cs cs':List Atom}(h:cs.length=cs'.length):(groB es cs= .rigid cs/\groB es cs'= .rigid cs')\/(groB es cs= .grow es cs/\groB es cs'= .grow es cs'):=by
 cases cs<;>cases cs'<;>first|exact .inl ⟨rfl,rfl⟩|exact .inr ⟨rfl,rfl⟩|simp at h
def KB.blk(D:List Int):KB->Blk
 | .bx v=> .rigid (v.cells D)
 | .arr es n t=> .rigid (flat D (Sq.toL .und t 0 n))
 | .gro es n t=>groB es (flat D (Sq.toL .und t 0 n))
 | .mp _ l=> .mc (l.map λp=>(valD p.1,p.2.cmp D))
 | .di j=> .rigid [.abs (diP D),.val (.int .i64 ((min j D.length:Nat):Int))]
def KB.ok:KB->Prop
 | .bx v=>v.okC
 | .arr es n t=>Br t n/\okE es (Sq.toL .und t 0 n)
 | .gro es n t=>Br t n/\okE es (Sq.toL .und t 0 n)
 | .mp s l=>(l.map (·.1)).Nodup/\ ∀p∈l,kOk s p.1/\p.2.okC
 | .di _=>True
abbrev qM:=M4 KB
open Classical in
def mblk(m:qM)(n:Nat):Option KB:=if h: ∃k:Key,k.num=n then mget m (Classical.choose h)else none
theorem vt(m:qM)(k:Key):mblk m k.num=mget m k:=by
 have h: ∃q:Key,q.num=k.num:=⟨k,rfl⟩;unfold mblk;rw[dif_pos h,Key.num_inj (Classical.choose_spec h)]
theorem zd{m:qM}{n:Nat}{b:KB}(h:mblk m n=some b): ∃k:Key,k.num=n/\mget m k=some b:=by
 unfold mblk at h;split at h
 .rename_i e;exact⟨_,Classical.choose_spec e,h⟩
 .cases h
theorem HG(m:qM)(k:Key)(v:Option KB)(n:Nat):mblk (mset m k v) n=if n=k.num then v else mblk m n:=by
 by_cases h:n=k.num
 .subst h;rw[if_pos rfl,vt,Lb]
 .rw[if_neg h]
  by_cases hq: ∃q:Key,q.num=n
  .obtain⟨q,rfl⟩:=hq
   rw[vt,vt,Q8];intro e;exact h (by rw[e])
  .unfold mblk;rw[dif_neg hq,dif_neg hq]
structure Env16 where
 lo:N16 (N16 V)
 hi:N16 (N16 V)
abbrev Env16.c0(e:Env16):N16 V:=e.lo.c0
def Mh(a b:D16)(e:N16 (N16 V)):V:=(e.get a).get b
def Aj(e:N16 (N16 V))(t:Nat):V:= @Bool.rec (λ_=>V) .und (Mh (D16.of (Nat.div t 16)) (D16.of (Nat.mod t 16)) e) (Nat.blt t 256)
def slot(e:Env16)(t:Nat):V:= @Bool.rec (λ_=>V) (Aj e.hi (Nat.sub t 256)) (Aj e.lo t) (Nat.blt t 256)
def Rl(a b:D16)(v:V)(e:N16 (N16 V)):N16 (N16 V):=e.set a ((e.get a).set b v)
def BP(e:N16 (N16 V))(t:Nat)(v:V):N16 (N16 V):=Rl (D16.of (Nat.div t 16)) (D16.of (Nat.mod t 16)) v e
def eset(e:Env16)(t:Nat)(v:V):Env16:= @Bool.rec (λ_=>Env16) ⟨e.lo,BP e.hi (Nat.sub t 256) v⟩ ⟨BP e.lo t v,e.hi⟩ (Nat.blt t 256)
theorem Lu{e:N16 (N16 V)}{t:Nat}(v:V)(ht:t<256)(t':Nat):Aj (BP e t v) t'=if t'=t then v else Aj e t':=by
 unfold Aj BP Rl Mh;by_cases h':t'<256
 .have hb:Nat.blt t' 256=true:=by simpa using h'
  rw[hb];simp only;by_cases e1:t'/16=t/16
  .by_cases e2:t'%16=t%16
   .have:t'=t:=by omega
    subst this;rw[if_pos rfl,N16.get_same,N16.get_same]
   .rw[if_neg (by intro e;exact e2 (by rw[e]))]
    show(N16.get (N16.set e (D16.of (t/16)) _) (D16.of (t'/16))).get _=_;rw[e1,N16.get_same];rw[N16.get_ne]
    .show _=(N16.get e (D16.of (t'/16))).get _
     rw[e1];rfl
    .intro e3
     have:=congrArg D16.n e3;rw[show Nat.mod t 16=t%16 from rfl,show Nat.mod t' 16=t'%16 from rfl,D16.n_of (by omega),D16.n_of (by omega)]at this;exact e2 this.symm
  .rw[if_neg (by intro e;exact e1 (by rw[e])),N16.get_ne]
   intro e3;have:=congrArg D16.n e3;rw[show Nat.div t 16=t/16 from rfl,show Nat.div t' 16=t'/16 from rfl,D16.n_of (by omega),D16.n_of (by omega)]at this;exact e1 this.symm
 .have hb:Nat.blt t' 256=false:=by
   cases hq:Nat.blt t' 256 with
   |false=>rfl
   |true=>exact absurd (by simpa using hq) h'
  rw[hb,if_neg (by omega)]
theorem Ef{a b:Nat}(h:a<b):Nat.blt a b=true:=by simpa using h
theorem LS{a b:Nat}(h: ¬a<b):Nat.blt a b=false:=by
 cases hq:Nat.blt a b with
 |false=>rfl
 |true=>exact absurd (by simpa using hq) h
theorem Cg{e:Env16}{t:Nat}(h:t<256):slot e t=Aj e.lo t:=by unfold slot;rw[Ef h]
theorem Cf{e:Env16}{t:Nat}(h: ¬t<256):slot e t=Aj e.hi (t-256):=by unfold slot;rw[LS h];rfl
theorem PA{e:Env16}{t:Nat}{v:V}(h:t<256):eset e t v=⟨BP e.lo t v,e.hi⟩:=by unfold eset;rw[Ef h]
theorem Pz{e:Env16}{t:Nat}{v:V}(h: ¬t<256):eset e t v=⟨e.lo,BP e.hi (t-256) v⟩:=by unfold eset;rw[LS h];rfl
theorem CJ{e:Env16}{t:Nat}(v:V)(ht:t<512)(t':Nat):slot (eset e t v) t'=if t'=t then v else slot e t':=by
 by_cases h:t<256
 .rw[PA h]
  by_cases h':t'<256
  .rw[Cg h',Cg h'];exact Lu v h t'
  .rw[Cf h',Cf h',if_neg (by omega)]
 .rw[Pz h]
  by_cases h':t'<256
  .rw[Cg h',Cg h',if_neg (by omega)]
  .rw[Cf h',Cf h']
   show Aj (BP e.hi (t-256) v) (t'-256)=_;rw[Lu v (by omega) (t'-256)];by_cases q:t'=t
   .rw[if_pos (by omega),if_pos q]
   .rw[if_neg (by omega),if_neg q]
def qt(D:List Int)(e:Env16)(m:qM):FS:=λℓ=>if ℓ%2=0 then((slot e (ℓ/2)).av D).map .av else(mblk m (ℓ/2)).map λb=> .bl (b.blk D)
section
variable {D:List Int}
theorem qL(e:Env16)(m:qM)(t:Nat):qt D e m (2*t)=((slot e t).av D).map .av:=by
 unfold qt;rw[if_pos (by omega),show 2*t/2=t by omega]
theorem qj(e:Env16)(m:qM)(n:Nat):qt D e m (2*n+1)=(mblk m n).map λb=> .bl (b.blk D):=by
 unfold qt;rw[if_neg (by omega),show(2*n+1)/2=n by omega]
def DJ:V->Bool
 | .uu (.slice none 0 0)=>true
 |_=>false
theorem L4{v:V}(h:DJ v=true):v= .uu (.slice none 0 0):=by
 unfold DJ at h;split at h
 .rfl
 .cases h
def wS:V->Bool
 | .bb x=>!x
 |_=>false
theorem EA{v:V}(h:wS v=true):v= .bb false:=by
 unfold wS at h;split at h
 .rename_i x;cases x
  .rfl
  .cases h
 .cases h
def pack:List V->List V
 |a::b::c::r=>bif wS a&&DJ b&&DJ c then .qq false 0 1::pack r else a::pack (b::c::r)
 |l=>l
def zB(v:Value):V:=
 match v with
 | .int k (.ofNat n)=> .nn k n
 | .int k (.negSucc n)=> .zz k n
 | .bool x=> .bb x
 | .string s=> .st (s.data.toList.map UInt8.toNat)
 |v=>bif v.oneC then .uu v else .und
def jP(v:Value):V:=
 match v with
 | .agg arr=>let l:=arr.toList.map zB;bif l.all V.on then mkA l.length (pack l)else .und
 |v=>zB v
theorem q0A(s:ByteArray):strV (s.data.toList.map UInt8.toNat)= .string s:=by
 unfold strV;rw[List.map_map];have:(UInt8.ofNat∘UInt8.toNat)=id:=by funext u;simp
 rw[this,List.map_id]
theorem H9{v:Value}(h:(zB v).on=true)(β:Bm)(H:Heap):((zB v).a1 D).sat β H v/\(zB v).ok1:=by
 unfold zB at h⊢;split at h
 .exact⟨⟨rfl,rfl⟩,trivial⟩
 .exact⟨⟨rfl,rfl⟩,trivial⟩
 .exact⟨⟨rfl,rfl⟩,trivial⟩
 .exact⟨⟨(q0A _).symm,rfl⟩,λb hb=>by obtain⟨u,_,rfl⟩:=List.mem_map.1 hb;exact u.toNat_lt⟩
 .rename_i h1 h2 h3 h4
  cases ho:v.oneC with
  |false=>rw[ho]at h;cases h
  |true=>exact⟨⟨rfl,ho⟩,ho⟩
theorem ZZ(β:Bm)(H:Heap):(Atom.abs (natP 0)).sat β H (.slice none 0 0):=⟨none,0,rfl,q5B _,.inl rfl⟩
theorem ZY(β:Bm)(H:Heap):(Atom.abs (denP 1)).sat β H (.slice none 0 0):=⟨none,0,rfl,q5B _,.inl rfl⟩
theorem W2:QWF false 0 1:=⟨by decide,by decide,λh=>by cases h⟩
theorem FX: ∀{l:List V},okL l->AImps (cs D l) (cs D (pack l))/\okL (pack l)/\wds (pack l)=wds l
 |[],h=>⟨jA,h,rfl⟩
 |[_],h=>⟨jA,h,rfl⟩
 |[_,_],h=>⟨jA,h,rfl⟩
 |a::b::c::r,h=>by
  obtain⟨ha,h1⟩:=vw.1 h;obtain⟨hb,h2⟩:=vw.1 h1;obtain⟨hc,h3⟩:=vw.1 h2;unfold pack
  cases hq:wS a&&DJ b&&DJ c with
  |true=>
   simp only[cond_true];simp only[q4L]at hq;obtain⟨⟨q1,q2⟩,q3⟩:=hq;have:=EA q1;subst this
   have:=L4 q2;subst this
   have:=L4 q3;subst this
   obtain⟨i1,i2,i3⟩:=FX h3;refine⟨?_,vw.2 ⟨⟨rfl,W2⟩,i2⟩,by rw[zM,zM,zM,zM,i3];show 3+wds r=1+(1+(1+wds r));omega⟩;rw[vE,vE,vE,vE,<-q4R,<-q4R];refine wq ?_ i1;refine⟨λβ H v hv=>hv,?_,?_,trivial⟩
   .rintro β H v ⟨rfl,_⟩;exact ZZ β H
   .rintro β H v ⟨rfl,_⟩;exact ZY β H
  |false=>
   simp only[cond_false];obtain⟨i1,i2,i3⟩:=FX h1;refine⟨?_,vw.2 ⟨ha,i2⟩,by rw[zM,i3,<-zM]⟩;rw[vE,vE];exact wq jA i1
theorem Fk: ∀{vs:List Value},(vs.map zB).all V.on=true-> ∀(β:Bm)(H:Heap),Sats β H (cs D (vs.map zB)) vs/\okL (vs.map zB)/\wds (vs.map zB)=vs.length
 |[],_,_,_=>⟨trivial,GI,rfl⟩
 |v::r,h,β,H=>by
  rw[q5b,List.all_cons,q4L]at h;obtain⟨h1,h2⟩:=H9 (D:=D) h.1 β H;obtain⟨i1,i2,i3⟩:=Fk h.2 β H;rw[q5b];refine⟨?_,vw.2 ⟨⟨V.on_un h.1,h2⟩,i2⟩,by rw[zM,i3,V.on_wd h.1,q56];omega⟩;rw[vE,V.on_c1 h.1];exact⟨h1,i1⟩
theorem ws{v:Value}(h:jP v≠ .und)(β:Bm)(H:Heap):(jP v).okC/\((jP v).cmp D).sat β H v:=by
 unfold jP at h⊢;split at h
 .rename_i arr
  simp only at h⊢
  cases hl:(arr.toList.map zB).all V.on with
  |false=>rw[hl]at h;exact absurd rfl h
  |true=>
   simp only[cond_true];obtain⟨i1,i2,i3⟩:=Fk (D:=D) hl β H;obtain⟨j1,j2,j3⟩:=FX (D:=D) i2;obtain⟨k1,k2⟩:=HJ (D:=D) (s:=(arr.toList.map zB).length) (by rw[j3,i3,q58]) j2;refine⟨k1,?_⟩;rw[k2];exact⟨arr,rfl,AImps.sats j1 i1⟩
 .rename_i hn
  have ho:(zB v).on=true:=by
   unfold zB at h⊢;split at h<;>first|rfl|skip
   cases ho:v.oneC with
   |false=>rw[ho]at h;exact absurd rfl h
   |true=>rfl
  obtain⟨h1,h2⟩:=H9 (D:=D) ho β H;exact⟨(V.on_okC ho).2 h2,by rw[V.on_cmp ho];exact h1⟩
def qa(e:Env16)(x:Operand):V:=
 @Operand.rec (λ_=>V) (λt=>slot e t) (λv=>jP v) (λ_=> .und) (λf=> .uu (.func (.func f) #[] #[])) x
end
end
noncomputable section
def AStr(a:Atom):Prop:= ∀β H v k,a.sat β H v->a.men k=true->β k≠none
theorem LocsSat.str{β:Bm}: ∀{ps:List (Nat×Nat)}{vs:List Value},LocsSat β ps vs-> ∀p∈ps,β p.1≠none
 |p::_,_::_,h,q,hq=>by
  rcases q5d.1 hq with rfl|hq
  .obtain⟨⟨b,c,h,_⟩,_⟩:=h;rw[h];simp
  .exact LocsSat.str h.2 q hq
 |[],[],_,q,hq=>by simp at hq
 |[],_::_,h,_,_=>h.elim
 |_::_,[],h,_,_=>h.elim
section
variable {D:List Int}
theorem V.a1_str(v:V):AStr (v.a1 D):=by
 intro β H x k hs hm
 cases v with
 |pp k' o=>obtain⟨b,c,h,_⟩:=hs;simp only[V.a1,Atom.men,beq_iff_eq]at hm;subst hm;rw[h];simp
 |ee k' i o w=>obtain⟨b,c,h,_⟩:=hs;simp only[V.a1,Atom.men,beq_iff_eq]at hm;subst hm;rw[h];simp
 |sl k' lo n c w=>obtain⟨b,c,h,_⟩:=hs;simp only[V.a1,Atom.men,beq_iff_eq]at hm;subst hm;rw[h];simp
 |gs k' lo n w=>obtain⟨b,c,h,_⟩:=hs;simp only[V.a1,Atom.men,beq_iff_eq]at hm;subst hm;rw[h];simp
 |mm k'=>obtain⟨b,c,h,_⟩:=hs;simp only[V.a1,Atom.men,beq_iff_eq]at hm;subst hm;rw[h];simp
 |cl f ps=>
  obtain⟨vs,_,h⟩:=hs;simp only[V.a1,Atom.men,List.any_eq_true,beq_iff_eq]at hm;obtain⟨p,hp,rfl⟩:=hm;exact LocsSat.str h p hp
 |_=>simp[V.a1,Atom.men]at hm
theorem V.c1_str(v:V): ∀a∈v.c1 D,AStr a:=by
 intro a ha;by_cases ho:v.on=true
 .rw[V.on_c1 ho]at ha
  simp only[q5j]at ha;subst ha;exact V.a1_str v
 .cases v with
  |qq s n d=>
   simp only[V.c1,q5d,q5l,or_false]at ha;rcases ha with rfl|rfl|rfl<;>intro β H x k _ hm<;>simp[Atom.men]at hm
  |und=>simp[V.c1]at ha
  |ag w l=>simp[V.c1]at ha
  |tu l=>simp[V.c1]at ha
  |_=>exact absurd rfl ho
theorem To(l:List V): ∀a∈cs D l,AStr a:=by
 intro a ha;simp only[cs,List.mem_flatMap]at ha;obtain⟨v,_,hv⟩:=ha;exact V.c1_str v a hv
theorem V.cells_or(v:V):v.cells D=v.c1 D\/ ∃w l,v= .ag w l:=by cases v<;>first|exact .inl rfl|exact .inr ⟨_,_,rfl⟩
theorem Fi(v:V): ∀a∈v.cells D,AStr a:=by
 rcases V.cells_or (D:=D) v with h|⟨w,l,rfl⟩
 .rw[h];exact V.c1_str v
 .exact To l
theorem Ar(L:List V): ∀a∈flat D L,AStr a:=by
 intro a ha;simp only[flat,List.mem_flatMap]at ha;obtain⟨v,_,hv⟩:=ha;exact Fi v a hv
theorem Sats.str{β:Bm}{H:Heap}{k:Nat}: ∀{l:List Atom}{vs:List Value},(∀a∈l,AStr a)->Sats β H l vs->jC k l=true->β k≠none
 |a::l,v::vs,h,hs,hm=>by
  simp only[jC,Bool.or_eq_true]at hm;rcases hm with hm|hm
  .exact h a q5f β H v k hs.1 hm
  .exact Sats.str (λb hb=>h b (q5e _ hb)) hs.2 hm
 |[],[],_,_,hm=>by simp[jC]at hm
 |[],_::_,_,hs,_=>hs.elim
 |_::_,[],_,hs,_=>hs.elim
theorem F4(v:V): ∀a∈(v.cmp D).cells,AStr a:=by
 cases v with
 |qq s n d=>exact V.c1_str (D:=D) (.qq s n d)
 |ag w l=>exact To (D:=D) l
 |_=>intro a ha;simp only[V.cmp,Cmp.cells,q5j]at ha;subst ha;exact V.a1_str _
theorem Ps{β:Bm}{H:Heap}{k:Nat}(v:V){x:Value}(h:(v.cmp D).sat β H x)(hm:(v.cmp D).men k=true):β k≠none:=by
 have hs:=Cmp.sat_cells h;refine Sats.str (F4 v) hs ?_
 cases hc:v.cmp D with
 |one a=>rw[hc]at hm;have hm:a.men k=true:=hm;simpa[Cmp.cells,jC]using hm
 |agg l=>rw[hc]at hm;exact hm
theorem Ho{β:Bm}{H:Heap}{k:Nat}: ∀{l:List V}{vs:List Value},CmpSats β H (l.map (V.cmp D)) vs->menC k (l.map (V.cmp D))=true->β k≠none
 |v::l,x::vs,h,hm=>by
  simp only[q5b,menC,Bool.or_eq_true]at hm;rcases hm with hm|hm
  .exact Ps v h.1 hm
  .exact Ho h.2 hm
 |[],[],_,hm=>by simp[menC]at hm
 |[],_::_,h,_=>h.elim
 |_::_,[],h,_=>h.elim
theorem V.av_or(v:V):v= .und\/(∃l,v= .tu l)\/v.av D=some (.c (v.cmp D)):=by
 cases v<;>first|exact .inl rfl|exact .inr (.inl ⟨_,rfl⟩)|exact .inr (.inr rfl)
theorem SY{v:V}{a:AV}(h:v.av D=some a)(t:Nat):XStr (2*t) (.av a):=by
 refine⟨by omega,?_⟩;intro β H x k hs hm;rcases V.av_or (D:=D) v with rfl|⟨l,rfl⟩|e
 .cases h
 .simp only[V.av,q61]at h;subst h
  obtain⟨arr,_,hs⟩:=hs;exact Ho hs hm
 .rw[e]at h;cases h
  exact Ps v hs hm
theorem Gh(b:KB)(q:Nat):XStr (2*q+1) (.bl (b.blk D)):=by
 have hr: ∀cs:List Atom,(∀a∈cs,AStr a)->(∀β w H q k,(Blk.rigid cs).rep β w H q->(Blk.rigid cs).men k=true->β k≠none)/\ ∀β w H q,(Blk.rigid cs).rep β w H q->β q≠none:=by
  intro cs hcs;refine⟨λβ w H q k hr hm=>?_,λβ w H q hr=>?_⟩
  .obtain⟨b,c,arr,T,h1,h2,h3⟩:=hr;exact Sats.str hcs h3 hm
  .obtain⟨b,c,arr,T,h1,h2,h3⟩:=hr;rw[h1];simp
 refine⟨by omega,?_⟩
 cases b with
 |bx v=>exact hr _ (Fi v)
 |arr es n t=>exact hr _ (Ar _)
 |gro es n t=>
  show(∀β w H q k,(groB es (flat D (Sq.toL .und t 0 n))).rep β w H q->(groB es (flat D (Sq.toL .und t 0 n))).men k=true->β k≠none)/\ ∀β w H q,(groB es (flat D (Sq.toL .und t 0 n))).rep β w H q->β q≠none;have hst:=Ar (D:=D) (Sq.toL .und t 0 n);revert hst;generalize flat D (Sq.toL .und t 0 n)=cs;intro hst
  cases cs with
  |nil=>exact hr _ hst
  |cons a l=>
   refine⟨λβ w H q k hr hm=>?_,λβ w H q hr=>?_⟩
   .rcases hr with⟨h1,h2⟩|⟨b,c,arr,T,h1,h2,h3,h4,h5⟩
    .cases h2
    .exact Sats.str hst h5 hm
   .rcases hr with⟨h1,h2⟩|⟨b,c,arr,T,h1,_⟩
    .cases h2
    .rw[h1];simp
 |mp s l=>
  have e:(l.map λp=>(valD p.1,p.2.cmp D)).map (·.2)=(l.map (·.2)).map (V.cmp D):=by rw[List.map_map,List.map_map];rfl
  refine⟨λβ w H q k hr hm=>?_,λβ w H q hr=>?_⟩
  .obtain⟨b,c,vs,_,_,h3⟩:=hr
   have hm:menC k ((l.map λp=>(valD p.1,p.2.cmp D)).map (·.2))=true:=hm;rw[e]at h3 hm;exact Ho h3 hm
  .obtain⟨b,c,vs,h1,_⟩:=hr;rw[h1];simp
 |di j=>exact hr _ (λa ha=>by
   simp only[q5d,q5l,or_false]at ha
   rcases ha with rfl|rfl<;>intro β H v k _ hm<;>simp[Atom.men]at hm)
theorem Ou(e:Env16)(m:qM):Str (qt D e m):=by
 intro ℓ x hx;rcases q5J ℓ with h|h
 .obtain⟨t,rfl⟩: ∃t,ℓ=2*t:=⟨ℓ/2,by omega⟩
  rw[qL]at hx
  cases ha:(slot e t).av D with
  |none=>rw[ha]at hx;cases hx
  |some a=>rw[ha]at hx;cases hx;exact SY ha t
 .obtain⟨q,rfl⟩: ∃q,ℓ=2*q+1:=⟨ℓ/2,by omega⟩
  rw[qj]at hx
  cases hb:mblk m q with
  |none=>rw[hb]at hx;cases hx
  |some b=>rw[hb]at hx;cases hx;exact Gh b q
end
def OpK(P:Program)(op:Op)(ty:TypeId)(ins:List (Operand×AV))(kin:List (Nat×Blk))(R:AV)(Lw:List (Nat×Option Blk))(d:Nat):Prop:=
 ∀(dst:Option Tmp)(pos:String)(after:Array Edge)(guard:Option (Nat×Bool))(a:Act)(w:World)(H:Heap)(β:Bm)(K:Act->World->Prop)(Q:Exit->Act->World->Prop),
  (∀p∈ins,p.2.sat β H (a.eval p.1))->
  (∀p∈kin,p.2.rep β w H p.1/\ ∀b c,β p.1=some (b,c)->H b=none/\b<w.heap.size)->
  (∀p∈kin,∀p'∈kin,p.1≠p'.1-> ∀b c c',β p.1=some (b,c)->β p'.1≠some (b,c'))->
  Heap.On H w->(qu kin Lw≠[]->β d=none)->
  (∀v w' H' β',Step w H β (kwOf kin Lw) (qu kin Lw) (jk Lw) w' H' β'->R.sat β' H' v->(∀k b,(k,some b)∈Lw->b.rep β' w' H' k)->K (a.put dst v) w')->
  Oper.wp P ⟨dst,op,ty,pos,after,guard⟩ a w K Q
theorem opk{P:Program}{op:Op}{ty:TypeId}{ins:List (Operand×AV)}{kin:List (Nat×Blk)}{R:AV}{Lw:List (Nat×Option Blk)}{d:Nat}(h:OpOk P op ty ins kin R Lw):OpK P op ty ins kin R Lw d:=
 λdst pos after guard a w H β K Q h1 h2 h3 h4 _ hK=>h dst pos after guard a w H β K Q h1 h2 h3 h4 hK
inductive KR where
 |bad
 |val (v:V) (ks:List (Key×KB))
 |wr (v:V) (ks:List (Key×KB)) (k:Key) (b:KB)
 |nw (v:V) (ks:List (Key×KB)) (b:KB)
 |mv (v:V) (ks:List (Key×KB)) (k:Key) (b:KB)
def qc(D:List Int)(v:V):AV:=(v.av D).getD AY
def vh(D:List Int)(ks:List (Key×KB)):List (Nat×Blk):=ks.map λp=>(p.1.num,p.2.blk D)
def lw(D:List Int)(d:Key):KR->List (Nat×Option Blk)
 | .wr _ _ k b=>[(k.num,some (b.blk D))]
 | .nw _ _ b=>[(d.num,some (b.blk D))]
 | .mv _ _ k b=>[(k.num,none),(d.num,some (b.blk D))]
 |_=>[]
def KR.res:KR->V
 | .bad=> .und
 | .val v _=>v| .wr v _ _ _=>v| .nw v _ _=>v| .mv v _ _ _=>v
def KR.ks:KR->List (Key×KB)
 | .bad=>[]
 | .val _ ks=>ks| .wr _ ks _ _=>ks| .nw _ ks _=>ks| .mv _ ks _ _=>ks
def KR.good(ks:List (Key×KB)):KR->Prop
 | .wr _ _ k b=>b.ok/\ ∃b',(k,b')∈ks
 | .nw _ _ b=>b.ok
 | .mv _ _ k b=>b.ok/\ ∃b',(k,b')∈ks
 |_=>True
def jj(D:List Int)(P:Program)(op:Op)(ty:TypeId)(xs:List Operand)(vs:List V)(m:qM)(d:Key)(r:KR):Prop:=
 r≠ .bad->(∀v∈vs,v.ok)->(∀k b,mget m k=some b->b.ok)->
  (∀v∈vs,v≠ .und)/\(∀p∈r.ks,mget m p.1=some p.2)/\OpK P op ty (List.zip xs (vs.map (qc D))) (vh D r.ks) (qc D r.res) (lw D d r) d.num/\r.res.ok/\r.res≠ .und/\r.good r.ks
theorem zA{D:List Int}{v:V}(h:v.okC):qc D v= .c (v.cmp D):=by rw[qc,V.okC_av h];rfl
theorem vO{v:V}(h:v.okC):v≠ .und:=λe=>by subst e;exact h
theorem on_c{D:List Int}{v:V}(h:v.on=true):qc D v= .c (.one (v.a1 D)):=by cases v<;>first|rfl|cases h
section
variable {D:List Int} {P:Program} {m:qM} {d:Key} {ty:TypeId}
theorem kbad{op:Op}{xs:List Operand}{vs:List V}:jj D P op ty xs vs m d .bad:=λh=>absurd rfl h
theorem kval{op:Op}{xs:List Operand}{vs:List V}{v:V}(h:(∀v∈vs,v.ok)->(∀v∈vs,v≠ .und)/\OpOk P op ty (List.zip xs (vs.map (qc D))) [] (qc D v) []/\v.ok/\v≠ .und):jj D P op ty xs vs m d (.val v []):=
 λ_ hv _=>⟨(h hv).1,λp hp=>by simp[KR.ks]at hp,opk (h hv).2.1,(h hv).2.2.1,(h hv).2.2.2,trivial⟩
def isU(v:V):Bool:=match v with| .und=>true|_=>false
theorem vU{v:V}(h:isU v=false):v≠ .und:=λe=>by subst e;cases h
def Bo(v:V):KR:= @Bool.rec (λ_=>KR) (.val v []) .bad (isU v)
theorem Nh{x:Operand}{v:V}:jj D P (.move x) ty [x] [v] m d (Bo v):=by
 unfold Bo
 cases hu:isU v with
 |true=>exact kbad
 |false=>
  refine kval λhv=>⟨λy hy=>?_,Qh,hv v (by simp),vU hu⟩
  simp at hy;subst hy;exact vU hu
theorem Hz{x:Operand}{v:V}:jj D P (.assign x) ty [x] [v] m d (Bo v):=by
 unfold Bo
 cases hu:isU v with
 |true=>exact kbad
 |false=>
  refine kval λhv=>⟨λy hy=>?_,Lj,hv v (by simp),vU hu⟩
  simp at hy;subst hy;exact vU hu
def D2(c x y:V):KR:=
 match c with
 | .bb b=> @Bool.rec (λ_=>KR) (.val (@Bool.rec (λ_=>V) y x b) []) .bad (isU x||isU y)
 |_=> .bad
theorem Ni{c x y:Operand}{a u v:V}:jj D P (.pick c x y) ty [c,x,y] [a,u,v] m d (D2 a u v):=by
 unfold D2;split
 .rename_i b
  cases hu:isU u||isU v with
  |true=>exact kbad
  |false=>
   rw[Bool.or_eq_false_iff]at hu;refine kval λhv=>⟨λz hz=>?_,?_,by cases b<;>exact hv _ (by simp),by cases b;exact vU hu.2;exact vU hu.1⟩
   .simp at hz
    rcases hz with rfl|rfl|rfl
    .simp
    .exact vU hu.1
    .exact vU hu.2
   .have:=DR (P:=P) (c:=c) (x:=x) (y:=y) (ty:=ty) (b:=b) (u:=qc D u) (v:=qc D v)
    cases b<;>exact this
 .exact kbad
def isC(v:V):Bool:=match v with| .und=>false| .tu _=>false|_=>true
theorem A5{v:V}(h:isC v=true)(hk:v.ok):v.okC:=by cases v<;>first|exact hk|cases h
def zeroV(P:Program)(t:TypeId):V:=
 match P.info? t with
 |some ti=>match ti.zero with
  |some z=>jP z
  |none=> .und
 |none=> .und
theorem B0{t:TypeId}(h:zeroV P t≠ .und): ∃ti z,P.info? t=some ti/\ti.zero=some z/\zeroV P t=jP z/\(jP z).okC/\ ∀β H,((jP z).cmp D).sat β H z:=by
 unfold zeroV at h⊢
 cases hi:P.info? t with
 |none=>rw[hi]at h;exact absurd rfl h
 |some ti=>
  rw[hi]at h;simp only at h⊢
  cases hz:ti.zero with
  |none=>rw[hz]at h;exact absurd rfl h
  |some z=>
   rw[hz]at h;simp only at h⊢;exact⟨ti,z,rfl,hz,rfl,(ws (D:=D) h (λ_=>none) (λ_=>none)).1,λβ H=>(ws (D:=D) h β H).2⟩
def Cu(P:Program)(t:TypeId)(d:Key):KR:= @Bool.rec (λ_=>KR) (.nw (.pp d 0) [] (.bx (zeroV P t))) .bad (isU (zeroV P t))
theorem JO{t:TypeId}:jj D P (.alloc t) ty [] [] m d (Cu P t d):=by
 unfold Cu
 cases hu:isU (zeroV P t)with
 |true=>exact kbad
 |false=>
  intro _ _ _;obtain⟨ti,z,hi,hz,e,ho,hs⟩:=B0 (D:=D) (vU hu)
  have hcells: ∀β H,Sats β H ((jP z).cells D) z.cells.toList:=λβ H=>by
   rw[<-V.okC_cells ho];exact Cmp.sat_cells (hs β H)
  refine⟨λv hv=>by simp at hv,λp hp=>by simp[KR.ks]at hp,?_,trivial,by simp[KR.res],?_⟩
  .show OpK P (.alloc t) ty [] [] (.c (.one (.loc d.num 0))) [(d.num,some (.rigid ((zeroV P t).cells D)))] d.num
   rw[e];refine opk (NU (c:=0) (T:=t) (λa w H β _=>⟨.pointer (some ⟨w.heap.size,0,none⟩),z.cells,λβ' hβ=>⟨_,_,hβ,rfl⟩,hcells β H,λ_ _ _ _=>?_⟩) ?_)
   .simp only[execOp,Instr.alloc,q64,jy hi hz,q63,EM,q65]
   .cases hm:jC d.num ((jP z).cells D)with
    |false=>rfl
    |true=>exact absurd rfl (Sats.str (Fi _) (hcells (λ_=>none) (λ_=>none)) hm)
  .show KB.ok (.bx (zeroV P t));rw[e];exact ho
def kBox(d:Key)(v:V):KR:= @Bool.rec (λ_=>KR) .bad (.nw (.pp d 0) [] (.bx v)) (isC v)
theorem Rx{t:TypeId}{x:Operand}{v:V}:jj D P (.box t x) ty [x] [v] m d (kBox d v):=by
 unfold kBox
 cases hc:isC v with
 |false=>exact kbad
 |true=>
  intro _ hv _;have ho:=A5 hc (hv v (by simp));show _/\_/\OpK P (.box t x) ty (List.zip [x] [qc D v]) [] (qc D (.pp d 0)) [(d.num,some ((KB.bx v).blk D))] d.num/\_;refine⟨λy hy=>by simp at hy;subst hy;exact vO ho,λp hp=>by simp[KR.ks]at hp,?_,trivial,by simp[KR.res],ho⟩;intro dst pos after guard a w H β K Q h1 h2 h3 h4 h5 hK;have hs:(qc D v).sat β H (a.eval x):=h1 (x,qc D v) (by simp);rw[zA ho]at hs
  have hmen:jC d.num (v.cmp D).cells=false:=by
   cases hm:jC d.num (v.cmp D).cells with
   |false=>rfl
   |true=>exact absurd (h5 (by simp[qu,look])) (Sats.str (F4 v) (Cmp.sat_cells hs) hm)
  have:=Uq (P:=P) (t:=t) (ty:=ty) (d:=d.num) (x:=x) (v:=v.cmp D) hmen;rw[V.okC_cells ho]at this;refine this dst pos after guard a w H β K Q ?_ h2 h3 h4 hK;intro p hp;simp at hp;subst hp;exact hs
def ldS(g:Bool)(s:Nat)(v:V)(o:Nat)(ks:List (Key×KB)):KR:=
 match carve v.us o s with
  |some (_,l,_)=>(match mkV g s l with| .und=> .bad|x=> .val x ks)
  |none=> .bad
def xorB(a b:Bool):Bool:= @Bool.rec (λ_=>Bool) b (!b) a
def ldG(g:Bool)(s:Nat)(v:V)(o:Nat)(ks:List (Key×KB)):KR:=
 @Bool.rec (λ_=>KR) (ldS g s v o ks) (.val v ks) (Nat.beq o 0&&Nat.beq s v.size&&xorB g v.on)
def ldV(P:Program)(t:TypeId)(v:V)(o:Nat)(ks:List (Key×KB)):KR:=
 match qQ P t with
 |some (g,s)=>ldG g s v o ks
 |none=> .bad
theorem V.off_cmp{v:V}(h:v.on=false)(hk:v.okC):v.cmp D= .agg (v.cells D):=by cases v<;>first|rfl|exact hk.elim|cases h
theorem Nv{t:TypeId}{v:V}{o:Nat}{ks:List (Key×KB)}{r:KR}(h:ldV P t v o ks=r)(hr:r≠ .bad)(hv:v.okC):
  ∃g s l x,qQ P t=some (g,s)/\r= .val x ks/\x.okC/\((v.cells D).drop o).take s=cs D l/\o+s<=(v.cells D).length/\(g=true->x.cmp D= .agg (cs D l))/\(g=false->x.cmp D= .one (x.a1 D)/\cs D l=[x.a1 D]/\s=1):=by
 unfold ldV at h;split at h
 .rename_i g s hs
  unfold ldG at h
  cases hf:Nat.beq o 0&&Nat.beq s v.size&&xorB g v.on with
  |true=>
   rw[hf]at h;subst h;simp only[q4L]at hf;obtain⟨⟨f1,f2⟩,f3⟩:=hf;have f1:=q5w f1;have f2:=q5w f2;subst f1;have hl:=V.okC_size (D:=D) hv;refine⟨g,s,v.us,v,hs,rfl,hv,?_,by omega,λhg=>?_,λhg=>?_⟩
   .rw[V.us_cells hv,q4U,q5o (by omega)]
   .subst hg
    have:v.on=false:=by cases ho:v.on with|false=>rfl|true=>rw[ho]at f3;cases f3
    rw[V.off_cmp this hv,V.us_cells hv]
   .subst hg
    have ho:v.on=true:=f3;rw[V.us_cells hv,V.un_cells (V.on_un ho),V.on_c1 ho];refine⟨V.on_cmp ho,rfl,?_⟩;rw[f2,<-hl,V.un_cells (V.on_un ho),V.c1_len,V.on_wd ho]
  |false=>
   rw[hf]at h;have h:ldS g s v o ks=r:=h;unfold ldS at h;split at h
   .rename_i a l p hc
    obtain⟨h1,h2⟩:=z7 (D:=D) hc;rw[V.us_cells hv]at h1 h2;have hok:=((jq (D:=D) hc).2.2.2 (V.us_ok hv)).2.1;have hw:=(jq (D:=D) hc).2.2.1;split at h
    .exact absurd h.symm hr
    .rename_i x hx
     subst h
     cases g with
     |true=>
      obtain⟨k1,k2⟩:=HJ (D:=D) hw hok;exact⟨true,s,l,_,hs,rfl,k1,h1,h2,λ_=>k2,λe=>by cases e⟩
     |false=>
      obtain⟨k1,k2,k3,k4⟩:=NB (D:=D) (l:=l) rfl (λe=>hx e) hok;exact⟨false,s,l,_,hs,rfl,k1,h1,h2,λe=>(by cases e),λ_=>⟨V.on_cmp k2,k3,by omega⟩⟩
   .exact absurd h.symm hr
 .exact absurd h.symm hr
def jY(P:Program)(m:qM)(t:TypeId)(p:V):KR:=
 match p with
 | .pp k o=>(match mget m k with
  |some (.bx v)=>ldV P t v o [(k,.bx v)]
  |_=> .bad)
 | .ee k i o w=>(match mget m k with
  |some (.arr es n q)=> @Bool.rec (λ_=>KR) .bad (ldV P t (Sq.get .und q i) o [(k,.arr es n q)]) (Nat.beq w es&&Nat.blt i n)
  |some (.gro es n q)=> @Bool.rec (λ_=>KR) .bad (ldV P t (Sq.get .und q i) o [(k,.gro es n q)]) (Nat.beq w es&&Nat.blt i n)
  |_=> .bad)
 |_=> .bad
theorem Ab{l:List Atom}{o s:Nat}{u:Atom}(h:(l.drop o).take s=[u])(hs:s=1):l[o]?=some u:=by
 subst hs;have:((l.drop o).take 1)[0]?=some u:=by rw[h];rfl
 rw[q53 (by decide),q50]at this;simpa using this
theorem Fv{t:TypeId}{x:Operand}{p:V}{k:Key}{b:KB}{v:V}{o off:Nat}{cl:List Atom}(hp:p.on=true)(ha:p.a1 D= .loc k.num off)(hb:mget m k=some b)(hbl:b.blk D= .rigid cl\/ ∃es,b.blk D= .grow es cl)
  (hvo:b.ok->v.okC)(hcl:b.ok-> ∀s,o+s<=(v.cells D).length->(cl.drop off).take s=((v.cells D).drop o).take s/\off+s<=cl.length):jj D P (.load t x) ty [x] [p] m d (ldV P t v o [(k,b)]):=by
 intro hr hv hm;have hbo:=hm k b hb;obtain⟨g,s,l,z,hs,e,ho,h1,h2,h3,h4⟩:=Nv (D:=D) rfl hr (hvo hbo);rw[e];obtain⟨c1,c2⟩:=hcl hbo s h2;rw[h1]at c1;refine⟨λy hy=>(by simp at hy;subst hy;intro e;subst e;cases hp),λq hq=>(by simp[KR.ks]at hq;subst hq;exact hb),?_,V.okC_ok ho,vO ho,trivial⟩;refine opk ?_;show OpOk P (.load t x) ty [(x,qc D p)] [(k.num,b.blk D)] (qc D z) [];rw[on_c hp,ha,zA ho]
 cases g with
 |true=>
  rw[h3 rfl];rcases hbl with e1|⟨es,e1⟩
  .rw[e1];exact Du hs c1 c2
  .rw[e1];exact CG hs c1 c2
 |false=>
  obtain⟨k1,k2,k3⟩:=h4 rfl;rw[k1];rw[k2]at c1;have c3:=Ab c1 k3;rcases hbl with e1|⟨es,e1⟩
  .rw[e1];exact Dv hs c3
  .rw[e1];exact FT hs c3
theorem Ng{t:TypeId}{x:Operand}{p:V}:jj D P (.load t x) ty [x] [p] m d (jY P m t p):=by
 unfold jY;split
 .rename_i k o
  split
  .rename_i v hb
   exact Fv (D:=D) (cl:=v.cells D) (off:=o) rfl rfl hb (.inl rfl) (λh=>h) (λ_ s hs=>⟨rfl,hs⟩)
  .exact kbad
 .rename_i k i o w
  split
  .rename_i es n q hb
   cases hc:Nat.beq w es&&Nat.blt i n with
   |false=>exact kbad
   |true=>
    rw[q4L]at hc;have e1:=q5w hc.1;subst e1;have hi:i<n:=by simpa using hc.2
    refine Fv (D:=D) (cl:=flat D (Sq.toL .und q 0 n)) (off:=i*w+o) rfl rfl hb (.inl rfl) (λh=>(h.2 _ (q5h (v7 .und q hi))).1) (λh s hs=>?_);have hel:=h.2 _ (q5h (v7 .und q hi));exact B6 h.2 (v7 .und q hi) (by rw[V.okC_size hel.1,hel.2]at hs;exact hs)
  .rename_i es n q hb
   cases hc:Nat.beq w es&&Nat.blt i n with
   |false=>exact kbad
   |true=>
    rw[q4L]at hc;have e1:=q5w hc.1;subst e1;have hi:i<n:=by simpa using hc.2
    refine Fv (D:=D) (cl:=flat D (Sq.toL .und q 0 n)) (off:=i*w+o) rfl rfl hb ((JN w _).imp id λh=>⟨w,h⟩) (λh=>(h.2 _ (q5h (v7 .und q hi))).1) (λh s hs=>?_);have hel:=h.2 _ (q5h (v7 .und q hi));exact B6 h.2 (v7 .und q hi) (by rw[V.okC_size hel.1,hel.2]at hs;exact hs)
  .exact kbad
 .exact kbad
end
end
noncomputable section
section
variable {D:List Int} {P:Program} {m:qM} {d:Key} {ty:TypeId}
def rewrap(v:V)(u:List V):V:=
 match v with
 | .ag w _=> .ag w u
 |v=>(match u with|[y]=>y|_=> .ag v.size u)
theorem Pg{v:V}{u:List V}(hv:v.okC)(hu:okL u)(hw:wds u=v.size):(rewrap v u).okC/\(rewrap v u).cells D=cs D u/\(rewrap v u).size=v.size:=by
 unfold rewrap;split
 .rename_i w l
  exact⟨⟨hw.symm,hu⟩,rfl,rfl⟩
 .split
  .rename_i y
   obtain⟨h1,h2⟩:=(vw.1 hu).1;refine⟨(V.un_okC h1).2 h2,by rw[V.un_cells h1];simp[cs],?_⟩;rw[<-hw,<-V.okC_size (D:=D) ((V.un_okC h1).2 h2),V.un_cells h1,V.c1_len];simp[wds]
  .exact⟨⟨hw.symm,hu⟩,rfl,rfl⟩
def putV(v:V)(o s:Nat)(x:V):Option V:=
 @Bool.rec (λ_=>Option V) (match carve v.us o s with|some (a,_,r)=>some (rewrap v (a++(x.us++r)))|none=>none) (some x) (Nat.beq o 0&&Nat.beq s v.size)
theorem Da{v x y:V}{o s:Nat}(h:putV v o s x=some y)(hv:v.okC)(hx:x.okC)(hs:x.size=s):y.okC/\spl (v.cells D) o (x.cells D)=y.cells D/\y.size=v.size/\o+s<=v.size:=by
 have hl:=V.okC_size (D:=D) hv;have hlx:=V.okC_size (D:=D) hx;unfold putV at h
 cases hf:Nat.beq o 0&&Nat.beq s v.size with
 |true=>
  rw[hf]at h;cases h;rw[q4L]at hf;have f1:=q5w hf.1;have f2:=q5w hf.2;subst f1;refine⟨hx,?_,by omega,by omega⟩;unfold spl;rw[List.take_zero,q5k,q4T (by omega),List.append_nil]
 |false=>
  rw[hf]at h;simp only at h;split at h
  .rename_i a l r hc
   cases h;obtain⟨h1,h2,h3,h4⟩:=jq (D:=D) hc;obtain⟨k1,k2,k3⟩:=h4 (V.us_ok hv);have hsum:=congrArg List.length h1;rw[q55,q55,wm,wm,wm,wm,V.us_wds hv]at hsum
   have hw:wds (a++(x.us++r))=v.size:=by
    rw[QT,QT,V.us_wds hx];omega
   obtain⟨r1,r2,r3⟩:=Pg (D:=D) hv (DQ.2 ⟨k1,DQ.2 ⟨V.us_ok hx,k3⟩⟩) hw;refine⟨r1,?_,r3,by omega⟩;rw[r2,<-By hc (x:=x.us) (by rw[V.us_wds hx,hs]),V.us_cells hv,V.us_cells hx]
  .cases h
def A6(P:Program)(m:qM)(t:TypeId)(p x:V):KR:=
 match qQ P t with
 |some (_,s)=> @Bool.rec (λ_=>KR) .bad (match p with
  | .pp k o=>(match mget m k with
   |some (.bx v)=>(match putV v o s x with
    |some y=> .wr (.tu []) [(k,.bx v)] k (.bx y)
    |none=> .bad)
   |_=> .bad)
  | .ee k i o w=>(match mget m k with
   |some (.arr es n q)=> @Bool.rec (λ_=>KR) .bad (match putV (Sq.get .und q i) o s x with
    |some y=> .wr (.tu []) [(k,.arr es n q)] k (.arr es n (Sq.set y q i))
    |none=> .bad) (Nat.beq w es&&Nat.blt i n)
   |some (.gro es n q)=> @Bool.rec (λ_=>KR) .bad (match putV (Sq.get .und q i) o s x with
    |some y=> .wr (.tu []) [(k,.gro es n q)] k (.gro es n (Sq.set y q i))
    |none=> .bad) (Nat.beq w es&&Nat.blt i n)
   |_=> .bad)
  |_=> .bad) (Nat.beq x.size s&&isC x)
 |none=> .bad
theorem Ke{es:Nat}{L:List V}(h:okE es L){i:Nat}{y:V}(hy:y.okC/\y.size=es):okE es (L.set i y):=λx hx=>by
 rcases List.mem_or_eq_of_mem_set hx with h'|rfl
 .exact h x h'
 .exact hy
theorem Ey{t:TypeId}{x y:Operand}{p v z:V}{k:Key}{b b':KB}{o off s:Nat}{g:Bool}{cl cl':List Atom}(hsh:qQ P t=some (g,s))(hp:p.on=true)(ha:p.a1 D= .loc k.num off)(hb:mget m k=some b)
  (hz:z.size=s)(hzc:isC z=true)(hbl:cl.length=cl'.length->(b.blk D= .rigid cl/\b'.blk D= .rigid cl')\/ ∃es,b.blk D= .grow es cl/\b'.blk D= .grow es cl')
  (hcl:b.ok->z.okC->spl cl off (z.cells D)=cl'/\off+s<=cl.length/\b'.ok):jj D P (.store t x y) ty [x,y] [p,z] m d (.wr (.tu []) [(k,b)] k b'):=by
 intro _ hv hm;have hbo:=hm k b hb;have hzo:=A5 hzc (hv z (by simp));obtain⟨c1,c2,c3⟩:=hcl hbo hzo;refine⟨λu hu=>?_,λq hq=>(by simp[KR.ks]at hq;subst hq;exact hb),?_,λu hu=>(by simp[KR.res]at hu),by simp[KR.res],c3,⟨b,by simp[KR.ks]⟩⟩
 .simp at hu
  rcases hu with rfl|rfl
  .intro e;subst e;cases hp
  .exact vO hzo
 refine opk ?_;show OpOk P (.store t x y) ty [(x,qc D p),(y,qc D z)] [(k.num,b.blk D)] (qc D (.tu [])) [(k.num,some (b'.blk D))];rw[on_c hp,ha,zA hzo];have hlen:(z.cmp D).cells.length=s:=by rw[V.okC_cells hzo,V.okC_size hzo,hz]
 have hll:cl.length=cl'.length:=by
  rw[<-c1];unfold spl
  have:=V.okC_size (D:=D) hzo;simp;omega
 rcases hbl hll with⟨e1,e2⟩|⟨es,e1,e2⟩
 .rw[e1,e2,<-c1,<-V.okC_cells hzo];exact HS hsh hlen c2
 .rw[e1,e2,<-c1,<-V.okC_cells hzo];exact F6 hsh hlen c2
theorem JT{t:TypeId}{x y:Operand}{p z:V}:jj D P (.store t x y) ty [x,y] [p,z] m d (A6 P m t p z):=by
 unfold A6;split
 .rename_i g s hs
  cases hc:Nat.beq z.size s&&isC z with
  |false=>exact kbad
  |true=>
   rw[q4L]at hc;have hz:=q5w hc.1;simp only;split
   .rename_i k o
    split
    .rename_i v hb
     split
     .rename_i u hu
      refine Ey (D:=D) (v:=v) (o:=o) (cl:=v.cells D) (cl':=u.cells D) hs rfl rfl hb hz hc.2 (λ_=> .inl ⟨rfl,rfl⟩) λhbo hzo=>?_
      obtain⟨r1,r2,r3,r4⟩:=Da (D:=D) hu hbo hzo hz;exact⟨r2,by rw[V.okC_size hbo];exact r4,r1⟩
     .exact kbad
    .exact kbad
   .rename_i k i o w
    split
    .rename_i es n q hb
     cases hw:Nat.beq w es&&Nat.blt i n with
     |false=>exact kbad
     |true=>
      rw[q4L]at hw;have e1:=q5w hw.1;subst e1;have hi:i<n:=by simpa using hw.2
      simp only;split
      .rename_i u hu
       refine Ey (D:=D) (v:=Sq.get .und q i) (o:=o) (off:=i*w+o) (cl:=flat D (Sq.toL .und q 0 n)) (cl':=flat D (Sq.toL .und (Sq.set u q i) 0 n)) hs rfl rfl hb hz hc.2 (λ_=> .inl ⟨rfl,rfl⟩) λhbo hzo=>?_
       have hel:=hbo.2 _ (q5h (v7 .und q hi));obtain⟨r1,r2,r3,r4⟩:=Da (D:=D) hu hel.1 hzo hz;have hzl:=V.okC_size (D:=D) hzo;refine⟨?_,(B6 (D:=D) hbo.2 (v7 .und q hi) (o:=o) (s:=s) (by omega)).2,hbo.1.set u hi,?_⟩
       .rw[GU _ _ hbo.1 hi]
        exact Hv hbo.2 (v7 .und q hi) (by omega) r2
       .rw[GU _ _ hbo.1 hi];exact Ke hbo.2 ⟨r1,by rw[r3,hel.2]⟩
      .exact kbad
    .rename_i es n q hb
     cases hw:Nat.beq w es&&Nat.blt i n with
     |false=>exact kbad
     |true=>
      rw[q4L]at hw;have e1:=q5w hw.1;subst e1;have hi:i<n:=by simpa using hw.2
      simp only;split
      .rename_i u hu
       refine Ey (D:=D) (v:=Sq.get .und q i) (o:=o) (off:=i*w+o) (cl:=flat D (Sq.toL .und q 0 n)) (cl':=flat D (Sq.toL .und (Sq.set u q i) 0 n)) hs rfl rfl hb hz hc.2 (λhl=>(Hx hl).imp id λh=>⟨w,h⟩) λhbo hzo=>?_
       have hel:=hbo.2 _ (q5h (v7 .und q hi));obtain⟨r1,r2,r3,r4⟩:=Da (D:=D) hu hel.1 hzo hz;have hzl:=V.okC_size (D:=D) hzo;refine⟨?_,(B6 (D:=D) hbo.2 (v7 .und q hi) (o:=o) (s:=s) (by omega)).2,hbo.1.set u hi,?_⟩
       .rw[GU _ _ hbo.1 hi]
        exact Hv hbo.2 (v7 .und q hi) (by omega) r2
       .rw[GU _ _ hbo.1 hi];exact Ke hbo.2 ⟨r1,by rw[r3,hel.2]⟩
      .exact kbad
    .exact kbad
   .exact kbad
 .exact kbad
theorem we{op:Op}{x:Operand}{v r:V}(hv:v.on=true)(hr:r.on=true)(hro:r.ok1)(h:OpOk P op ty [(x,.c (.one (v.a1 D)))] [] (.c (.one (r.a1 D))) []):jj D P op ty [x] [v] m d (.val r []):=
 kval λ_=>⟨λy hy=>(by simp at hy;subst hy;intro e;subst e;cases hv),by
  show OpOk P op ty [(x,qc D v)] [] (qc D r) []
  rw[on_c hv,on_c hr];exact h,V.okC_ok ((V.on_okC hr).2 hro),vO ((V.on_okC hr).2 hro)⟩
theorem vJ{op:Op}{x y:Operand}{v u r:V}(hv:v.on=true)(hu:u.on=true)(hr:r.on=true)(hro:r.ok1)(h:OpOk P op ty [(x,.c (.one (v.a1 D))),(y,.c (.one (u.a1 D)))] [] (.c (.one (r.a1 D))) []):jj D P op ty [x,y] [v,u] m d (.val r []):=
 kval λ_=>⟨λz hz=>(by
   simp at hz;rcases hz with rfl|rfl
   .intro e;subst e;cases hv
   .intro e;subst e;cases hu),by
  show OpOk P op ty [(x,qc D v),(y,qc D u)] [] (qc D r) []
  rw[on_c hv,on_c hu,on_c hr];exact h,V.okC_ok ((V.on_okC hr).2 hro),vO ((V.on_okC hr).2 hro)⟩
def jW(P:Program)(s:TypeId)(f:Nat)(p:V):KR:=
 match zh P s f with
 |some (fo,_,sz)=> @Bool.rec (λ_=>KR) (match p with
  | .pp k o=> .val (.pp k (o+fo)) []
  | .ee k i o w=> .val (.ee k i (o+fo) w) []
  |_=> .bad) .bad (Nat.beq sz 0)
 |none=> .bad
theorem Dq{s:TypeId}{x:Operand}{f:Nat}{p:V}:jj D P (.fieldAddr s x f) ty [x] [p] m d (jW P s f p):=by
 unfold jW;split
 .rename_i fo ft sz hf
  cases hz:Nat.beq sz 0 with
  |true=>exact kbad
  |false=>
   have hz':sz≠0:=λe=>by subst e;cases hz
   simp only;split
   .rename_i k o
    exact we (v:= .pp k o) (r:= .pp k (o+fo)) rfl rfl trivial (wh hf hz')
   .rename_i k i o w
    refine we (v:= .ee k i o w) (r:= .ee k i (o+fo) w) rfl rfl trivial ?_;have:=wh (P:=P) (x:=x) (ty:=ty) (k:=k.num) (off:=i*w+o) hf hz';rw[show i*w+o+fo=i*w+(o+fo) by omega]at this;exact this
   .exact kbad
 .exact kbad
def Ie(P:Program)(t:TypeId):Option (Nat×Nat):=
 match P.underlying t with
 |some (.array n e)=>(match P.info? e with|some ie=>some (n,ie.size)|none=>none)
 |_=>none
theorem If{t:TypeId}{n s:Nat}(h:Ie P t=some (n,s)): ∃e ie,P.underlying t=some (.array n e)/\P.info? e=some ie/\ie.size=s:=by
 unfold Ie at h;split at h
 .rename_i n' e hu
  split at h
  .rename_i ie hi;cases h;exact⟨e,ie,hu,hi,rfl⟩
  .cases h
 .cases h
theorem J4{t:TypeId}{x y:Operand}{k off lo n es:Nat}{kk:IntKind}{i:Int}{j:Nat}{o:Nat}(h:jx P t=some es)(hi:i=(j:Int))(hj:j<n)(ho:o=off+j*es):
  OpOk P (.indexAddr t x y) ty [(x,.c (.one (.ks k off lo n))),(y,qb kk i)] [] (.c (.one (.loc k o))) []:=
 qk λa w H β hins _ _=>by
  obtain⟨e,ie,h1,h2,rfl⟩:=jo h;obtain⟨b,c,hβ,_,hx⟩:=hins _ q5f;have hy:=(hins (y,qb kk i) (by simp)).1;simp only at hβ hx hy;subst ho;have e:j=i.toNat:=by omega
  subst e;refine⟨_,⟨b,c,hβ,rfl⟩,λ_ _ _ _=>?_⟩;simp only[execOp,hx,hy,q64,vW h1 h2 (show 0<=i by omega) (show i<n by omega),q63,q65]
def jX(P:Program)(t:TypeId)(p i:V):KR:=
 match i with
 | .nn _ j=>(match p with
  | .pp k o=>(match Ie P t with
   |some (n,s)=> @Bool.rec (λ_=>KR) .bad (.val (.pp k (o+j*s)) []) (Nat.blt j n)
   |none=> .bad)
  | .ee k q o w=>(match Ie P t with
   |some (n,s)=> @Bool.rec (λ_=>KR) .bad (.val (.ee k q (o+j*s) w) []) (Nat.blt j n)
   |none=> .bad)
  | .sl k lo n c w=>(match jx P t with
   |some es=> @Bool.rec (λ_=>KR) .bad (.val (.ee k (lo+j) 0 w) []) (Nat.beq es w&&Nat.blt j n)
   |none=> .bad)
  | .gs k lo n w=>(match jx P t with
   |some es=> @Bool.rec (λ_=>KR) .bad (.val (.ee k (lo+j) 0 w) []) (Nat.beq es w&&Nat.blt j n)
   |none=> .bad)
  |_=> .bad)
 |_=> .bad
theorem Dr{t:TypeId}{x y:Operand}{p i:V}:jj D P (.indexAddr t x y) ty [x,y] [p,i] m d (jX P t p i):=by
 unfold jX;split
 .rename_i kk j
  split
  .rename_i k o
   split
   .rename_i n s ha
    cases hj:Nat.blt j n with
    |false=>exact kbad
    |true=>
     obtain⟨e,ie,h1,h2,rfl⟩:=If ha;have hj':j<n:=by simpa using hj
     refine vJ (v:= .pp k o) (u:= .nn kk j) (r:= .pp k (o+j*ie.size)) rfl rfl rfl trivial ?_;exact wi (i:=(j:Int)) h1 h2 (by omega) (by omega)
   .exact kbad
  .rename_i k q o w
   split
   .rename_i n s ha
    cases hj:Nat.blt j n with
    |false=>exact kbad
    |true=>
     obtain⟨e,ie,h1,h2,rfl⟩:=If ha;have hj':j<n:=by simpa using hj
     refine vJ (v:= .ee k q o w) (u:= .nn kk j) (r:= .ee k q (o+j*ie.size) w) rfl rfl rfl trivial ?_;have:=wi (P:=P) (ty:=ty) (x:=x) (y:=y) (k:=k.num) (off:=q*w+o) (kk:=kk) (i:=(j:Int)) h1 h2 (by omega) (by omega);rw[show q*w+o+(j:Int).toNat*ie.size=q*w+(o+j*ie.size) by simp;omega]at this;exact this
   .exact kbad
  .rename_i k lo n c w
   split
   .rename_i es hs
    cases hc:Nat.beq es w&&Nat.blt j n with
    |false=>exact kbad
    |true=>
     rw[q4L]at hc;have e1:=q5w hc.1;subst e1;have hj:j<n:=by simpa using hc.2
     refine vJ (v:= .sl k lo n c es) (u:= .nn kk j) (r:= .ee k (lo+j) 0 es) rfl rfl rfl trivial ?_;exact TF hs rfl hj (by rw[q5s];omega)
   .exact kbad
  .rename_i k lo n w
   split
   .rename_i es hs
    cases hc:Nat.beq es w&&Nat.blt j n with
    |false=>exact kbad
    |true=>
     rw[q4L]at hc;have e1:=q5w hc.1;subst e1;have hj:j<n:=by simpa using hc.2
     refine vJ (v:= .gs k lo n es) (u:= .nn kk j) (r:= .ee k (lo+j) 0 es) rfl rfl rfl trivial ?_;exact J4 hs rfl hj (by rw[q5s];omega)
   .exact kbad
  .exact kbad
 .exact kbad
def Cw(P:Program)(s:TypeId)(f:Nat)(x:V):KR:=
 match zh P s f with
 |some (fo,ft,sz)=>(match qQ P ft with
  |some (g,s')=> @Bool.rec (λ_=>KR) .bad (ldS g sz x fo []) (Nat.beq s' sz&&isC x&&!x.on)
  |none=> .bad)
 |none=> .bad
theorem Nu{g:Bool}{s:Nat}{v:V}{o:Nat}{ks:List (Key×KB)}{r:KR}(h:ldS g s v o ks=r)(hr:r≠ .bad)(hv:v.okC):
  ∃l x,r= .val x ks/\x.okC/\((v.cells D).drop o).take s=cs D l/\o+s<=(v.cells D).length/\(g=true->x.cmp D= .agg (cs D l))/\(g=false->x.cmp D= .one (x.a1 D)/\cs D l=[x.a1 D]/\s=1):=by
 unfold ldS at h;split at h
 .rename_i a l p hc
  obtain⟨h1,h2⟩:=z7 (D:=D) hc;rw[V.us_cells hv]at h1 h2;have hok:=((jq (D:=D) hc).2.2.2 (V.us_ok hv)).2.1;have hw:=(jq (D:=D) hc).2.2.1;split at h
  .exact absurd h.symm hr
  .rename_i x hx
   subst h
   cases g with
   |true=>
    obtain⟨k1,k2⟩:=HJ (D:=D) hw hok;exact⟨l,_,rfl,k1,h1,h2,λ_=>k2,λe=>by cases e⟩
   |false=>
    obtain⟨k1,k2,k3,k4⟩:=NB (D:=D) (l:=l) rfl (λe=>hx e) hok;exact⟨l,_,rfl,k1,h1,h2,λe=>(by cases e),λ_=>⟨V.on_cmp k2,k3,by omega⟩⟩
 .exact absurd h.symm hr
theorem JR{s:TypeId}{x:Operand}{f:Nat}{v:V}:jj D P (.field s x f) ty [x] [v] m d (Cw P s f v):=by
 unfold Cw;split
 .rename_i fo ft sz hf
  split
  .rename_i g s' hs
   cases hc:Nat.beq s' sz&&isC v&&!v.on with
   |false=>exact kbad
   |true=>
    simp only[q4L,q4N]at hc;obtain⟨⟨c1,c2⟩,c3⟩:=hc;have c1:=q5w c1;subst c1;intro hr hv _;have ho:=A5 c2 (hv v (by simp));obtain⟨l,z,e,hz,h1,h2,h3,h4⟩:=Nu (D:=D) rfl hr ho;show _/\_/\_;have e:(@Bool.rec (λ_=>KR) .bad (ldS g s' v fo []) true)= .val z []:=e;rw[e];refine⟨λy hy=>(by simp at hy;subst hy;exact vO ho),λq hq=>(by simp[KR.ks]at hq),opk ?_,V.okC_ok hz,vO hz,trivial⟩;show OpOk P (.field s x f) ty [(x,qc D v)] [] (qc D z) [];rw[zA ho,zA hz,V.off_cmp c3 ho]
    cases g with
    |true=>rw[h3 rfl];exact NK hf hs h1
    |false=>
     obtain⟨k1,k2,k3⟩:=h4 rfl;rw[k1];rw[k2]at h1;exact NL hf hs (Ab h1 k3)
  .exact kbad
 .exact kbad
def nth{α:Type}(l:List α)(i:Nat):Option α:=l[i]?
def As(x:V)(i:Nat):KR:=
 match x with
 | .tu l=>(match nth l i with|some y=> .val y []|none=> .bad)
 |_=> .bad
theorem Fu{x:Operand}{i:Nat}{v:V}:jj D P (.extract x i) ty [x] [v] m d (As v i):=by
 unfold As;split
 .rename_i l
  split
  .rename_i y hy
   intro _ hv _;have hok: ∀z∈l,z.okC:=hv (.tu l) (by simp);have hy':l[i]?=some y:=hy;have ho:=hok y (q5h hy');refine⟨λu hu=>(by simp at hu;subst hu;simp),λq hq=>(by simp[KR.ks]at hq),opk ?_,V.okC_ok ho,vO ho,trivial⟩;show OpOk P (.extract x i) ty [(x,qc D (.tu l))] [] (qc D y) [];rw[zA ho];exact J2 (by rw[List.getElem?_map,hy'];rfl)
  .exact kbad
 .exact kbad
def IM(place:Nat->Option (Nat×Nat)):V->List (Nat×V)->Option V
 |u,[]=>some u
 |u,(i,v)::r=>match place i with
  |some (off,sz)=> @Bool.rec (λ_=>Option V) none (match putV u off sz v with|some u'=>IM place u' r|none=>none) (Nat.beq v.size sz&&isC v)
  |none=>none
theorem IN{place:Nat->Option (Nat×Nat)}: ∀{l:List (Nat×V)}{u u':V},IM place u l=some u'->u.okC->(∀p∈l,p.2.ok)->
  u'.okC/\afill place (u.cells D) (l.map λp=>(p.1,p.2.cmp D))=some (u'.cells D)/\(∀p∈l,p.2.okC)/\u'.size=u.size
 |[],u,u',h,hu,_=>by
  simp only[IM,q61]at h;subst h
  exact⟨hu,rfl,λp hp=>(by simp at hp),rfl⟩
 |(i,v)::r,u,u',h,hu,hk=>by
  simp only[IM]at h
  cases hp:place i with
  |none=>rw[hp]at h;cases h
  |some q=>
   obtain⟨off,sz⟩:=q;rw[hp]at h;simp only at h
   cases hc:Nat.beq v.size sz&&isC v with
   |false=>rw[hc]at h;cases h
   |true=>
    rw[hc]at h;rw[q4L]at hc;have hs:=q5w hc.1;have hv:=A5 hc.2 (hk (i,v) q5f);simp only at h;split at h
    .rename_i u1 h1
     obtain⟨r1,r2,r3,r4⟩:=Da (D:=D) h1 hu hv hs;obtain⟨s1,s2,s3,s4⟩:=IN h r1 (λp hp=>hk p (q5e _ hp));refine⟨s1,?_,λp hp=>?_,by rw[s4,r3]⟩
     .rw[q5b]
      simp only[afill,hp];rw[V.okC_cells hv,V.okC_size hv,hs,V.okC_size hu,r2];rw[Nat.beq_refl,show Nat.ble (off+sz) u.size=true by simpa using r4];exact s2
     .rcases q5d.1 hp with rfl|hp
      .exact hv
      .exact s3 p hp
    .cases h
def isA(v:V):Bool:=match v with| .qq _ _ _=>true| .ag _ _=>true|_=>false
theorem Zs{v:V}(h:isA v=true):v.on=false:=by cases v<;>first|rfl|cases h
theorem q1A{v:V}(h:isA v=true):v≠ .und:=λe=>by subst e;cases h
def Cv(P:Program)(t:TypeId)(is:List Nat)(vs:List V):KR:=
 match DT P t with
 |some place=> @Bool.rec (λ_=>KR) .bad
   (match IM place (zeroV P t) (List.zip is vs)with|some u=> @Bool.rec (λ_=>KR) .bad (.val u []) (isA u)|none=> .bad)
   (Nat.beq is.length vs.length&&Ak P t&&isA (zeroV P t))
 |none=> .bad
theorem LG{t:TypeId}(h:Ak P t=true): ∀fs,P.underlying t=some (.struct fs)->fs.all (λf=>(P.info? f.type).isSome)=true:=by
 intro fs hf;unfold Ak at h;rw[hf]at h;exact h
theorem wz{is:List Nat}{vs:List V}(h:is.length=vs.length):(List.zip is vs).map (·.2)=vs:=by
 induction is generalizing vs with
 |nil=>cases vs with|nil=>rfl|cons _ _=>simp at h
 |cons i is ih=>cases vs with
  |nil=>simp at h
  |cons v vs=>simp only[List.zip_cons_cons,q5b];rw[ih (by simpa using h)]
theorem Hg{is:List Nat}{vs:List V}:(List.zip is vs).map (λp=>(p.1,p.2.cmp D))=List.zip is (vs.map (V.cmp D)):=by
 induction is generalizing vs with
 |nil=>rfl
 |cons i is ih=>cases vs with
  |nil=>rfl
  |cons v vs=>simp only[List.zip_cons_cons,q5b];rw[ih]
theorem JP{t:TypeId}{parts:Array (Nat×Operand)}{vs:List V}:jj D P (.build t parts) ty (parts.toList.map (·.2)) vs m d (Cv P t (parts.toList.map (·.1)) vs):=by
 unfold Cv;split
 .rename_i place hp
  cases hc:Nat.beq (parts.toList.map (·.1)).length vs.length&&Ak P t&&isA (zeroV P t)with
  |false=>exact kbad
  |true=>
   simp only[q4L]at hc;obtain⟨⟨c1,c2⟩,c3⟩:=hc;have hl:=q5w c1;simp only;split
   .rename_i u hu
    cases ha:isA u with
    |false=>exact kbad
    |true=>
     intro _ hv _;obtain⟨ti,z,hi,hz,ez,hzo,hzs⟩:=B0 (D:=D) (q1A c3);rw[ez]at hu c3;have hsnd:=wz hl;obtain⟨k1,k2,k3,k4⟩:=IN (D:=D) hu hzo (λp hp=>hv p.2 (by rw[<-hsnd];exact List.mem_map.2 ⟨p,hp,rfl⟩))
     have hvc: ∀v∈vs,v.okC:=λv hv'=>by
      rw[<-hsnd]at hv';obtain⟨p,hp,rfl⟩:=List.mem_map.1 hv';exact k3 p hp
     have hav:vs.map (qc D)=(vs.map (V.cmp D)).map AV.c:=by
      rw[List.map_map];exact List.map_congr_left λv hv'=>zA (hvc v hv')
     refine⟨λy hy=>vO (hvc y hy),λq hq=>(by simp[KR.ks]at hq),opk ?_,V.okC_ok k1,vO k1,trivial⟩;show OpOk P (.build t parts) ty (List.zip (parts.toList.map (·.2)) (vs.map (qc D))) [] (qc D u) [];rw[hav,zA k1,V.off_cmp (Zs ha) k1];rw[Hg]at k2
     have hcells: ∀β H,Sats β H ((jP z).cells D) z.cells.toList:=λβ H=>by
      rw[<-V.okC_cells hzo];exact Cmp.sat_cells (hzs β H)
     exact Lk hi hz hcells hp (by rw[q58]at hl⊢;simpa using hl) (LG c2) k2
   .exact kbad
 .exact kbad
end
end
section
variable {D:List Int} {P:Program}
end
noncomputable section
def ofI(k:IntKind)(z:Int):V:=match z with| .ofNat n=> .nn k n| .negSucc n=> .zz k n
theorem CE(k:IntKind)(z:Int):(ofI k z).on=true/\(ofI k z).ok1:=by cases z<;>exact⟨rfl,trivial⟩
theorem q1S(k:IntKind)(z:Int):ofI k z≠ .und:=by cases z<;>simp[ofI]
theorem A7(D:List Int)(k:IntKind)(z:Int):(ofI k z).a1 D= .val (.int k z):=by cases z<;>rfl
def lim(k:IntKind):Nat:=match k with| .i8=>128| .u8=>128| .i16=>32768| .u16=>32768| .i32=>2147483648| .u32=>2147483648| .i64=>9223372036854775808| .u64=>9223372036854775808
theorem OS{k:IntKind}{n:Nat}(h:n<lim k):k.wrap (n:Int)=(n:Int):=by
 have hm:(n:Int)%(2^k.bits:Int)=n:=by cases k<;>simp only[lim]at h<;>simp only[IntKind.bits]<;>omega
 have hs: ¬((k.signed&&decide ((n:Int)>=(2^(k.bits-1):Int)))=true):=by
  cases k<;>simp[IntKind.bits,IntKind.signed,lim]at h⊢ <;>omega
 unfold IntKind.wrap;simp only[hm];rw[if_neg hs]
def keq(a b:IntKind):Bool:=
 match a,b with
 | .i64,.i64=>true| .u64,.u64=>true| .u32,.u32=>true| .i32,.i32=>true
 | .u8,.u8=>true| .i8,.i8=>true| .u16,.u16=>true| .i16,.i16=>true
 |_,_=>false
theorem zR{a b:IntKind}(h:keq a b=true):a=b:=by cases a<;>cases b<;>first|rfl|cases h
def nnW(k:IntKind)(c:Nat):V:= @Bool.rec (λ_=>V) (ofI k (k.wrap (c:Int))) (.nn k c) (Nat.blt c (lim k))
theorem CC(D:List Int)(k:IntKind)(c:Nat):(nnW k c).on=true/\(nnW k c).ok1/\(nnW k c).a1 D= .val (.int k (k.wrap (c:Int))):=by
 unfold nnW
 cases h:Nat.blt c (lim k)with
 |false=>exact⟨(CE _ _).1,(CE _ _).2,A7 _ _ _⟩
 |true=>
  have hl:c<lim k:=by simpa using h
  exact⟨rfl,trivial,by rw[OS hl];rfl⟩
def toI(v:V):Option (IntKind×Int):=match v with| .nn k n=>some (k,(n:Int))| .zz k n=>some (k,Int.negSucc n)|_=>none
theorem I3{v:V}{k:IntKind}{z:Int}(h:toI v=some (k,z)):v.on=true/\ ∀D,v.a1 D= .val (.int k z):=by
 unfold toI at h;split at h<;>first|(cases h;exact⟨rfl,λ_=>rfl⟩)|cases h
def binI(op:BinOp)(k:IntKind)(a b:Int):V:=
 match op with
 | .add=>ofI k (k.wrap (a+b))
 | .sub=>ofI k (k.wrap (a-b))
 | .mul=>ofI k (k.wrap (a*b))
 | .quo=> @Bool.rec (λ_=>V) (ofI k (k.wrap (a.tdiv b))) .und (decide (b=0))
 | .rem=> @Bool.rec (λ_=>V) (ofI k (a.tmod b)) .und (decide (b=0))
 | .and=>ofI k (k.wrap ((BitVec.ofInt k.bits a&&&BitVec.ofInt k.bits b).toNat))
 | .or=>ofI k (k.wrap ((BitVec.ofInt k.bits a|||BitVec.ofInt k.bits b).toNat))
 | .eql=> .bb (a==b)
 | .neq=> .bb (a !=b)
 | .lss=> .bb (decide (a<b))
 | .leq=> .bb (decide (a<=b))
 | .gtr=> .bb (decide (a>b))
 | .geq=> .bb (decide (a>=b))
 |_=> .und
def binN(op:BinOp)(k:IntKind)(a b:Nat):V:=
 match op with
 | .add=>nnW k (Nat.add a b)
 | .sub=> @Bool.rec (λ_=>V) (binI .sub k a b) (.nn k (Nat.sub a b)) (Nat.ble b a&&Nat.blt a (lim k))
 | .mul=>nnW k (Nat.mul a b)
 | .quo=> @Bool.rec (λ_=>V) (nnW k (Nat.div a b)) .und (Nat.beq b 0)
 | .rem=> @Bool.rec (λ_=>V) (.nn k (Nat.mod a b)) .und (Nat.beq b 0)
 | .eql=> .bb (Nat.beq a b)
 | .neq=> .bb (!Nat.beq a b)
 | .lss=> .bb (Nat.blt a b)
 | .leq=> .bb (Nat.ble a b)
 | .gtr=> .bb (Nat.blt b a)
 | .geq=> .bb (Nat.ble b a)
 |op=>binI op k a b
def shN(op:BinOp)(k:IntKind)(a b:Nat):V:=
 match op with
 | .shl=>nnW k (Nat.mul a (Nat.pow 2 (Nat.min b k.bits)))
 | .shr=> .nn k (Nat.div a (Nat.pow 2 (Nat.min b k.bits)))
 |_=> .und
def eqB(op:BinOp)(a b:Bool):V:=
 match op with
 | .eql=> .bb (a==b)
 | .neq=> .bb (a !=b)
 |_=> .und
def isSh(op:BinOp):Bool:=match op with| .shl=>true| .shr=>true|_=>false
section
variable {D:List Int} {P:Program} {m:qM} {d:Key} {ty:TypeId}
theorem CS{op:BinOp}{k:IntKind}{a b:Int}{t yt:TypeId}{x y:Operand}(h:binI op k a b≠ .und):
  (binI op k a b).on=true/\(binI op k a b).ok1/\OpOk P (.binOp op t x y yt) ty [(x,qb k a),(y,qb k b)] [] (.c (.one ((binI op k a b).a1 D))) []:=by
 have hI: ∀z,(ofI k z).on=true/\(ofI k z).ok1:=CE k
 cases op with
 |add=>exact⟨(hI _).1,(hI _).2,by show OpOk _ _ _ _ _ (.c (.one ((ofI k _).a1 D))) _;rw[A7];exact NI rfl⟩
 |sub=>exact⟨(hI _).1,(hI _).2,by show OpOk _ _ _ _ _ (.c (.one ((ofI k _).a1 D))) _;rw[A7];exact J9 rfl⟩
 |mul=>exact⟨(hI _).1,(hI _).2,by show OpOk _ _ _ _ _ (.c (.one ((ofI k _).a1 D))) _;rw[A7];exact NQ rfl⟩
 |quo=>
  by_cases hb:b=0
  .exact absurd (by show @Bool.rec (λ_=>V) _ .und (decide (b=0))= .und;rw[decide_eq_true hb]) h
  .have e:binI .quo k a b=ofI k (k.wrap (a.tdiv b)):=by show @Bool.rec (λ_=>V) _ .und (decide (b=0))=_;rw[decide_eq_false hb]
   rw[e];exact⟨(hI _).1,(hI _).2,by rw[A7];exact NV hb rfl⟩
 |rem=>
  by_cases hb:b=0
  .exact absurd (by show @Bool.rec (λ_=>V) _ .und (decide (b=0))= .und;rw[decide_eq_true hb]) h
  .have e:binI .rem k a b=ofI k (a.tmod b):=by show @Bool.rec (λ_=>V) _ .und (decide (b=0))=_;rw[decide_eq_false hb]
   rw[e];exact⟨(hI _).1,(hI _).2,by rw[A7];exact NW hb rfl⟩
 |and=>exact⟨(hI _).1,(hI _).2,by show OpOk _ _ _ _ _ (.c (.one ((ofI k _).a1 D))) _;rw[A7];exact Up rfl⟩
 |or=>exact⟨(hI _).1,(hI _).2,by show OpOk _ _ _ _ _ (.c (.one ((ofI k _).a1 D))) _;rw[A7];exact Y7 rfl⟩
 |eql=>exact⟨rfl,trivial,NJ rfl⟩
 |neq=>exact⟨rfl,trivial,NS rfl⟩
 |lss=>exact⟨rfl,trivial,NP rfl⟩
 |leq=>exact⟨rfl,trivial,NO rfl⟩
 |gtr=>exact⟨rfl,trivial,NN rfl⟩
 |geq=>exact⟨rfl,trivial,NM rfl⟩
 |_=>exact absurd rfl h
theorem decI{p q:Prop}[Decidable p]{b:Bool}(h:p↔b=true):decide p=b:=by
 cases b with
 |true=>exact decide_eq_true (h.2 rfl)
 |false=>exact decide_eq_false λe=>by cases h.1 e
theorem T7{op:BinOp}{k:IntKind}{a b:Nat}{t yt:TypeId}{x y:Operand}(h:binN op k a b≠ .und):
  (binN op k a b).on=true/\(binN op k a b).ok1/\OpOk P (.binOp op t x y yt) ty [(x,qb k a),(y,qb k b)] [] (.c (.one ((binN op k a b).a1 D))) []:=by
 cases op with
 |add=>
  obtain⟨h1,h2,h3⟩:=CC D k (Nat.add a b);refine⟨h1,h2,?_⟩;show OpOk _ _ _ _ _ (.c (.one ((nnW k (Nat.add a b)).a1 D))) _;rw[h3];exact NI (by rw[show((Nat.add a b:Nat):Int)=(a:Int)+b from Int.natCast_add a b])
 |sub=>
  cases hc:Nat.ble b a&&Nat.blt a (lim k)with
  |false=>
   have e:binN .sub k a b=binI .sub k a b:=by show @Bool.rec (λ_=>V) _ _ (Nat.ble b a&&Nat.blt a (lim k))=_;rw[hc]
   rw[e];exact CS (q1S _ _)
  |true=>
   have e:binN .sub k a b= .nn k (Nat.sub a b):=by show @Bool.rec (λ_=>V) _ _ (Nat.ble b a&&Nat.blt a (lim k))=_;rw[hc]
   rw[q4L]at hc;have h1:b<=a:=by simpa using hc.1
   have h2:a<lim k:=by simpa using hc.2
   rw[e];refine⟨rfl,trivial,J9 ?_⟩;rw[show((a:Int) -b)=((a-b:Nat):Int) by omega,OS (by omega)];rfl
 |mul=>
  obtain⟨h1,h2,h3⟩:=CC D k (Nat.mul a b);refine⟨h1,h2,?_⟩;show OpOk _ _ _ _ _ (.c (.one ((nnW k (Nat.mul a b)).a1 D))) _;rw[h3];exact NQ (by rw[show((Nat.mul a b:Nat):Int)=(a:Int)*b from q4O a b])
 |quo=>
  cases hb:Nat.beq b 0 with
  |true=>exact absurd (by show @Bool.rec (λ_=>V) _ .und (Nat.beq b 0)= .und;rw[hb]) h
  |false=>
   have e:binN .quo k a b=nnW k (Nat.div a b):=by show @Bool.rec (λ_=>V) _ .und (Nat.beq b 0)=_;rw[hb]
   obtain⟨h1,h2,h3⟩:=CC D k (Nat.div a b);have hb':(b:Int)≠0:=λe=>by rw[Int.natCast_eq_zero.1 e]at hb;cases hb
   rw[e];exact⟨h1,h2,by rw[h3];exact NV hb' rfl⟩
 |rem=>
  cases hb:Nat.beq b 0 with
  |true=>exact absurd (by show @Bool.rec (λ_=>V) _ .und (Nat.beq b 0)= .und;rw[hb]) h
  |false=>
   have e:binN .rem k a b= .nn k (Nat.mod a b):=by show @Bool.rec (λ_=>V) _ .und (Nat.beq b 0)=_;rw[hb]
   have hb':(b:Int)≠0:=λe=>by rw[Int.natCast_eq_zero.1 e]at hb;cases hb
   rw[e];exact⟨rfl,trivial,NW hb' rfl⟩
 |eql=>
  refine⟨rfl,trivial,NJ ?_⟩;by_cases e:a=b
  .subst e;simp
  .rw[js e];simp;omega
 |neq=>
  refine⟨rfl,trivial,NS ?_⟩;by_cases e:a=b
  .subst e;simp
  .rw[js e];simp;omega
 |lss=>exact⟨rfl,trivial,NP (decI (q:=True) (by simp))⟩
 |leq=>exact⟨rfl,trivial,NO (decI (q:=True) (by simp))⟩
 |gtr=>exact⟨rfl,trivial,NN (decI (q:=True) (by simp))⟩
 |geq=>exact⟨rfl,trivial,NM (decI (q:=True) (by simp))⟩
 |and=>exact CS (op:= .and) (a:=(a:Int)) (b:=(b:Int)) h
 |or=>exact CS (op:= .or) (a:=(a:Int)) (b:=(b:Int)) h
 |_=>exact absurd rfl h
theorem Xt{op:BinOp}{k yk:IntKind}{a b:Nat}{t yt:TypeId}{x y:Operand}(h:shN op k a b≠ .und):
  (shN op k a b).on=true/\(shN op k a b).ok1/\OpOk P (.binOp op t x y yt) ty [(x,qb k a),(y,qb yk b)] [] (.c (.one ((shN op k a b).a1 D))) []:=by
 cases op with
 |shl=>
  obtain⟨h1,h2,h3⟩:=CC D k (Nat.mul a (Nat.pow 2 (Nat.min b k.bits)));refine⟨h1,h2,?_⟩;show OpOk _ _ _ _ _ (.c (.one ((nnW k (Nat.mul a (Nat.pow 2 (Nat.min b k.bits)))).a1 D))) _;rw[h3];refine Uu (by omega) ?_
  congr 1
 |shr=>
  refine⟨rfl,trivial,Uv (by omega) ?_⟩;rw[q4Q,Int.fdiv_eq_ediv_of_nonneg _ (by exact Int.le_of_lt (Int.pow_pos (by omega)))];show(a:Int)/2^min b k.bits=((a/2^min b k.bits:Nat):Int);simp
 |_=>exact absurd rfl h
def retV(v:V):KR:=match v with| .und=> .bad|v=> .val v []
theorem Qx{v:V}(h:retV v≠ .bad):v≠ .und/\retV v= .val v []:=by cases v<;>first|exact⟨by simp,rfl⟩|exact absurd rfl h
def lapp(a b:List Nat):List Nat:= @List.rec Nat (λ_=>List Nat) b (λx _ ih=>x::ih) a
def lenN(a:List Nat):Nat:= @List.rec Nat (λ_=>Nat) 0 (λ_ _ n=>Nat.succ n) a
theorem PZ(a b:List Nat):lapp a b=a++b:=by
 induction a with
 |nil=>rfl
 |cons x r ih=>rw[List.cons_append,<-ih];rfl
theorem K3(a:List Nat):lenN a=a.length:=by
 induction a with
 |nil=>rfl
 |cons x r ih=>rw[q56,<-ih];rfl
def sLt(a:List Nat):List Nat->Bool:= @List.rec Nat (λ_=>List Nat->Bool) (λb=> @List.rec Nat (λ_=>Bool) false (λ_ _ _=>true) b) (λx _ ih b=> @List.rec Nat (λ_=>Bool) false (λy s _=>Nat.blt x y||(Nat.beq x y&&ih s)) b) a
def sEq(a:List Nat):List Nat->Bool:= @List.rec Nat (λ_=>List Nat->Bool) (λb=> @List.rec Nat (λ_=>Bool) true (λ_ _ _=>false) b) (λx _ ih b=> @List.rec Nat (λ_=>Bool) false (λy s _=>Nat.beq x y&&ih s) b) a
theorem q4E{x y:Nat}(hx:x<256)(hy:y<256):decide (UInt8.ofNat x<UInt8.ofNat y)=Nat.blt x y:=by
 rw[Bool.eq_iff_iff,decide_eq_true_iff,UInt8.lt_iff_toNat_lt];simp[q5H hx,q5H hy]
theorem Yu{x y:Nat}(hx:x<256)(hy:y<256):(UInt8.ofNat x==UInt8.ofNat y)=Nat.beq x y:=by
 rw[Bool.eq_iff_iff,beq_iff_eq,<-UInt8.toNat_inj];simp[q5H hx,q5H hy]
theorem UV: ∀{a b:List Nat},(∀z∈a,z<256)->(∀z∈b,z<256)->Op.bytesLess (a.map UInt8.ofNat) (b.map UInt8.ofNat)=sLt a b
 |[],[],_,_=>rfl
 |[],_::_,_,_=>rfl
 |_::_,[],_,_=>rfl
 |x::r,y::s,ha,hb=>by
  show(decide (UInt8.ofNat x<UInt8.ofNat y)||(UInt8.ofNat x==UInt8.ofNat y&&Op.bytesLess (r.map UInt8.ofNat) (s.map UInt8.ofNat)))=(Nat.blt x y||(Nat.beq x y&&sLt r s));rw[UV (λz hz=>ha z (q5e _ hz)) (λz hz=>hb z (q5e _ hz)),q4E (ha x q5f) (hb y q5f),Yu (ha x q5f) (hb y q5f)]
theorem UU: ∀{a b:List Nat},(∀z∈a,z<256)->(∀z∈b,z<256)->((a.map UInt8.ofNat)==(b.map UInt8.ofNat))=sEq a b
 |[],[],_,_=>rfl
 |[],_::_,_,_=>rfl
 |_::_,[],_,_=>rfl
 |x::r,y::s,ha,hb=>by
  show(UInt8.ofNat x==UInt8.ofNat y&&((r.map UInt8.ofNat)==(s.map UInt8.ofNat)))=(Nat.beq x y&&sEq r s);rw[UU (λz hz=>ha z (q5e _ hz)) (λz hz=>hb z (q5e _ hz)),Yu (ha x q5f) (hb y q5f)]
def strB(op:BinOp)(a b:List Nat):V:=match op with
 | .add=> @Bool.rec (λ_=>V) .und (.st (lapp a b)) (Nat.ble (Nat.add (lenN a) (lenN b)) 1000000)
 | .eql=> .bb (sEq a b)
 | .neq=> .bb (!sEq a b)
 | .lss=> .bb (sLt a b)
 | .leq=> .bb (sLt a b||sEq a b)
 | .gtr=> .bb (!(sLt a b||sEq a b))
 | .geq=> .bb (!sLt a b)
 |_=> .und
def nilS(v:V):Option Bool:=match v with| .uu (.slice none 0 0)=>some true| .sl _ _ _ _ _=>some false| .gs _ _ _ _=>some false| .em=>some false|_=>none
def nilM(v:V):Option Bool:=match v with| .uu (.map none)=>some true| .mm _=>some false|_=>none
def isMp(P:Program)(t:TypeId):Bool:=match P.underlying t with|some (.map _ _)=>true|_=>false
def nilP(v:V):Option Bool:=match v with| .uu (.pointer none)=>some true| .pp _ _=>some false| .ee _ _ _ _=>some false|_=>none
def isPt(P:Program)(t:TypeId):Bool:=match P.underlying t with|some (.pointer _)=>true|_=>false
def nilB(op:BinOp)(b:Bool):V:=match op with| .eql=> .bb b| .neq=> .bb (!b)|_=> .und
def kAg(P:Program)(op:BinOp)(t:TypeId)(l l':List V):KR:= .bad
def kNil(P:Program)(op:BinOp)(t:TypeId)(x y:V):KR:=
 match y with
 | .uu (.slice none 0 0)=>(match nilS x with|some b=> @Bool.rec (λ_=>KR) .bad (retV (nilB op b)) (jB P t)|none=> .bad)
 | .uu (.map none)=>(match nilM x with|some b=> @Bool.rec (λ_=>KR) .bad (retV (nilB op b)) (isMp P t)|none=> .bad)
 | .uu (.pointer none)=>(match nilP x with|some b=> @Bool.rec (λ_=>KR) .bad (retV (nilB op b)) (isPt P t)|none=> .bad)
 | .st b=>(match x with| .st a=>retV (strB op a b)|_=> .bad)
 | .ag _ l'=>(match x with| .ag _ l=>kAg P op t l l'|_=> .bad)
 |_=> .bad
def kBin(P:Program)(op:BinOp)(t:TypeId)(x y:V):KR:=
 match x,y with
 | .nn k a,.nn k' b=> @Bool.rec (λ_=>KR) (@Bool.rec (λ_=>KR) .bad (retV (binN op k a b)) (keq k k')) (retV (shN op k a b)) (isSh op)
 | .bb a,.bb b=>(match P.underlying t with|some .bool=>retV (eqB op a b)|_=> .bad)
 |x,y=>(match toI x,toI y with
  |some (k,a),some (k',b)=> @Bool.rec (λ_=>KR) .bad (retV (binI op k a b)) (keq k k'&&!isSh op)
  |_,_=>kNil P op t x y)
theorem wU{op:Op}{x y:Operand}{v u r:V}(hv:v.on=true)(hu:u.on=true)(h:r≠ .und->r.on=true/\r.ok1/\OpOk P op ty [(x,.c (.one (v.a1 D))),(y,.c (.one (u.a1 D)))] [] (.c (.one (r.a1 D))) []):jj D P op ty [x,y] [v,u] m d (retV r):=by
 intro hr;obtain⟨h1,h2⟩:=Qx hr;obtain⟨k1,k2,k3⟩:=h h1;rw[h2]at hr⊢;exact vJ hv hu k1 k2 k3 hr
theorem wY{op:BinOp}{t yt:TypeId}{x y:Operand}{u:Atom}{N:Value}{b:Bool}(hN:N.oneC=true)(h1: ∀β H v,u.sat β H v-> ∀w,(do eqGuard .eql t x y v N;binOp .eql t v N:Sem Value).run P w= .ok (.bool b) w)
  (h2: ∀β H v,u.sat β H v-> ∀w,(do eqGuard .neq t x y v N;binOp .neq t v N:Sem Value).run P w= .ok (.bool (!b)) w)(hne:nilB op b≠ .und):
  (nilB op b).on=true/\(nilB op b).ok1/\OpOk P (.binOp op t x y yt) ty [(x,.c (.one u)),(y,.c (.one (.val N)))] [] (.c (.one ((nilB op b).a1 D))) []:=by
 have key: ∀(op:BinOp)(r:Bool),(∀β H v,u.sat β H v-> ∀w,(do eqGuard op t x y v N;binOp op t v N:Sem Value).run P w= .ok (.bool r) w)->
   OpOk P (.binOp op t x y yt) ty [(x,.c (.one u)),(y,.c (.one (.val N)))] [] (.c (.one (.val (.bool r)))) []:=by
  intro op r h;refine qk λa w H β hins _ _=>?_
  have hx:=hins _ q5f;have hy:=(hins (y,.c (.one (.val N))) (by simp)).1;simp only at hx hy;refine⟨.bool r,⟨rfl,rfl⟩,λ_ _ _ _=>?_⟩;have:=h β H _ hx w;simp only[q64]at this;simp only[execOp,hy,q64,this,q63,q65]
 cases op with
 |eql=>exact⟨rfl,trivial,key .eql b h1⟩
 |neq=>exact⟨rfl,trivial,key .neq (!b) h2⟩
 |_=>exact absurd rfl hne
theorem eqg(op:BinOp)(t:TypeId)(x y:Operand)(a b:Value)(w:World)(h: ∀p q,a= .agg p->b= .agg q->False)(h2:a≠ .nilIface):(eqGuard op t x y a b).run P w= .ok () w:=by
 unfold eqGuard;cases op<;>simp<;>cases a<;>cases b<;>simp_all
theorem eqS {t : TypeId} {x y : Operand} {e : TypeId} (he : P.underlying t = some (.slice e)) (a : Option Addr) (n c : Nat) (w : World) :
  (do eqGuard .eql t x y (.slice a n c) (.slice none 0 0); binOp .eql t (.slice a n c) (.slice none 0 0) : Sem Value).run P w = .ok (.bool a.isNone) w /\
   (do eqGuard .neq t x y (.slice a n c) (.slice none 0 0); binOp .neq t (.slice a n c) (.slice none 0 0) : Sem Value).run P w = .ok (.bool (!a.isNone)) w := by
 constructor <;> rw [q64, eqg _ _ _ _ _ _ _ (λ_ _ h => by cases h) (by simp), q63]
 .exact Lib.run_eql_slice_nil w t e a n c 0 0 he
 .exact run_neq_slice_nil_any w t e a n c 0 0 he
theorem eqM {t : TypeId} {x y : Operand} {k e : TypeId} (he : P.underlying t = some (.map k e)) (r : Option Nat) (w : World) :
  (do eqGuard .eql t x y (.map r) (.map none); binOp .eql t (.map r) (.map none) : Sem Value).run P w = .ok (.bool r.isNone) w /\
   (do eqGuard .neq t x y (.map r) (.map none); binOp .neq t (.map r) (.map none) : Sem Value).run P w = .ok (.bool (!r.isNone)) w := by
 constructor <;> rw [q64, eqg _ _ _ _ _ _ _ (λ_ _ h => by cases h) (by simp), q63]
 .exact run_eql_map_nil w t k e r he
 .exact run_neq_map_nil w t k e r he
theorem eqPt {t : TypeId} {x y : Operand} (he : P.underlying t = some (.pointer (P.pointee t))) (r : Option Addr) (w : World) :
  (do eqGuard .eql t x y (.pointer r) (.pointer none); binOp .eql t (.pointer r) (.pointer none) : Sem Value).run P w = .ok (.bool r.isNone) w /\
   (do eqGuard .neq t x y (.pointer r) (.pointer none); binOp .neq t (.pointer r) (.pointer none) : Sem Value).run P w = .ok (.bool (!r.isNone)) w := by
 constructor <;> rw [q64, eqg _ _ _ _ _ _ _ (λ_ _ h => by cases h) (by simp), q63]
 .exact run_eql_pointer_nil w t r he
 .exact run_neq_pointer_nil w t r he
theorem XA(a b:List Nat):(⟨(a.map UInt8.ofNat).toArray⟩:ByteArray)++⟨(b.map UInt8.ofNat).toArray⟩=⟨((a++b).map UInt8.ofNat).toArray⟩:=by
 apply Go.WideShapes.bytes_inj;simp[ByteArray.data_append]
theorem q0B(a:List Nat):(⟨(a.map UInt8.ofNat).toArray⟩:ByteArray).toList=a.map UInt8.ofNat:=by
 rw[ByteArray.toList_eq]
def isCm(op:BinOp):Bool:=match op with| .eql=>true| .neq=>true| .lss=>true| .leq=>true| .gtr=>true| .geq=>true|_=>false
theorem Ch{op:BinOp}(ho:isCm op=true){a b:List Nat}(ha: ∀z∈a,z<256)(hb: ∀z∈b,z<256)(w:World):(Op.stringOp op ⟨(a.map UInt8.ofNat).toArray⟩ ⟨(b.map UInt8.ofNat).toArray⟩).run P w= .ok (match strB op a b with| .bb c=> .bool c|_=> .bool false) w:=by
 unfold Op.stringOp;simp only[q0B,UV ha hb,UU ha hb];cases op<;>first|rfl|cases ho
theorem h_ag{op:BinOp}{t yt:TypeId}{x y:Operand}{w w':Nat}{l l':List V}:jj D P (.binOp op t x y yt) ty [x,y] [.ag w l,.ag w' l'] m d (kAg P op t l l'):=λh=>absurd rfl h
theorem RD{op:BinOp}{t yt:TypeId}{x y:Operand}{v u:V}:jj D P (.binOp op t x y yt) ty [x,y] [v,u] m d (kNil P op t v u):=by
 unfold kNil;split
 .split
  .rename_i b hb
   cases hs:jB P t with
   |false=>exact kbad
   |true=>
    obtain⟨e,he⟩: ∃e,P.underlying t=some (.slice e):=by
     unfold jB at hs;split at hs
     .rename_i e he;exact⟨e,he⟩
     .cases hs
    unfold nilS at hb;split at hb
    .cases hb
     refine wU (v:= .uu (.slice none 0 0)) (u:= .uu (.slice none 0 0)) rfl rfl λhne=>wY (b:=true) rfl ?_ ?_ hne
     .rintro β H v ⟨rfl,_⟩ w;exact(eqS he none 0 0 w).1
     .rintro β H v ⟨rfl,_⟩ w;exact(eqS he none 0 0 w).2
    .rename_i k lo n c w0
     cases hb;refine wU (v:= .sl k lo n c w0) (u:= .uu (.slice none 0 0)) rfl rfl λhne=>wY (b:=false) rfl ?_ ?_ hne
     .rintro β H v ⟨bb,c',_,rfl⟩ w;exact(eqS he (some _) _ _ w).1
     .rintro β H v ⟨bb,c',_,rfl⟩ w;exact(eqS he (some _) _ _ w).2
    .rename_i k lo n w0
     cases hb;refine wU (v:= .gs k lo n w0) (u:= .uu (.slice none 0 0)) rfl rfl λhne=>wY (b:=false) rfl ?_ ?_ hne
     .rintro β H v ⟨bb,c',_,_,rfl⟩ w;exact(eqS he (some _) _ _ w).1
     .rintro β H v ⟨bb,c',_,_,rfl⟩ w;exact(eqS he (some _) _ _ w).2
    .cases hb
     refine wU (v:= .em) (u:= .uu (.slice none 0 0)) rfl rfl λhne=>wY (b:=false) rfl ?_ ?_ hne
     .rintro β H v ⟨a,c',rfl⟩ w;exact(eqS he (some _) _ _ w).1
     .rintro β H v ⟨a,c',rfl⟩ w;exact(eqS he (some _) _ _ w).2
    .cases hb
  .exact kbad
 .split
  .rename_i b hb
   cases hs:isMp P t with
   |false=>exact kbad
   |true=>
    obtain⟨k,e,he⟩: ∃k e,P.underlying t=some (.map k e):=by
     unfold isMp at hs;split at hs
     .rename_i k e he;exact⟨k,e,he⟩
     .cases hs
    unfold nilM at hb;split at hb
    .cases hb
     refine wU (v:= .uu (.map none)) (u:= .uu (.map none)) rfl rfl λhne=>wY (b:=true) rfl ?_ ?_ hne
     .rintro β H v ⟨rfl,_⟩ w;exact(eqM he none w).1
     .rintro β H v ⟨rfl,_⟩ w;exact(eqM he none w).2
    .rename_i q
     cases hb;refine wU (v:= .mm q) (u:= .uu (.map none)) rfl rfl λhne=>wY (b:=false) rfl ?_ ?_ hne
     .rintro β H v ⟨bb,c',_,rfl⟩ w;exact(eqM he (some _) w).1
     .rintro β H v ⟨bb,c',_,rfl⟩ w;exact(eqM he (some _) w).2
    .cases hb
  .exact kbad
 .split
  .rename_i b hb
   cases hs:isPt P t with
   |false=>exact kbad
   |true=>
    have he:P.underlying t=some (.pointer (P.pointee t)):=by
     unfold isPt at hs;split at hs
     .rename_i e he;rw[he];unfold Program.pointee;rw[he]
     .cases hs
    unfold nilP at hb;split at hb
    .cases hb
     refine wU (v:= .uu (.pointer none)) (u:= .uu (.pointer none)) rfl rfl λhne=>wY (b:=true) rfl ?_ ?_ hne
     .rintro β H v ⟨rfl,_⟩ w;exact(eqPt he none w).1
     .rintro β H v ⟨rfl,_⟩ w;exact(eqPt he none w).2
    .rename_i k o
     cases hb;refine wU (v:= .pp k o) (u:= .uu (.pointer none)) rfl rfl λhne=>wY (b:=false) rfl ?_ ?_ hne
     .rintro β H v ⟨bb,c',_,rfl⟩ w;exact(eqPt he (some _) w).1
     .rintro β H v ⟨bb,c',_,rfl⟩ w;exact(eqPt he (some _) w).2
    .rename_i k i o w0
     cases hb;refine wU (v:= .ee k i o w0) (u:= .uu (.pointer none)) rfl rfl λhne=>wY (b:=false) rfl ?_ ?_ hne
     .rintro β H v ⟨bb,c',_,rfl⟩ w;exact(eqPt he (some _) w).1
     .rintro β H v ⟨bb,c',_,rfl⟩ w;exact(eqPt he (some _) w).2
    .cases hb
  .exact kbad
 .rename_i b
  split
  .rename_i a
   intro hr hv hm;obtain⟨h1,h2⟩:=Qx hr;have ha: ∀z∈a,z<256:=hv (.st a) (by simp);have hb: ∀z∈b,z<256:=hv (.st b) (by simp);rw[h2]at hr⊢
   cases op with
   |add=>
    unfold strB at h1 hr⊢
    cases hc:Nat.ble (Nat.add (lenN a) (lenN b)) 1000000 with
    |false=>simp only[hc]at h1;exact absurd rfl h1
    |true=>
     simp only[hc]at hr;simp only;have hle:lenN a+lenN b<=1000000:=q5y hc;rw[K3,K3]at hle;refine vJ (v:= .st a) (u:= .st b) (r:= .st (lapp a b)) rfl rfl rfl ?_ ?_ hr hv hm
     .rw[PZ]
      intro z hz;rcases q5c.1 hz with hz|hz
      .exact ha z hz
      .exact hb z hz
     .rw[PZ]
      refine jG rfl λw=>?_
      rw[q64,eqg _ _ _ _ _ _ _ (λ_ _ h=>by cases h) (by simp[strV]),q63];show(Op.stringOp .add _ _).run P w=_;unfold Op.stringOp;simp only;rw[if_neg]
      .rw[XA];rfl
      .have e1:(⟨(a.map UInt8.ofNat).toArray⟩:ByteArray).size=a.length:=by show(a.map UInt8.ofNat).toArray.size=_;simp
       have e2:(⟨(b.map UInt8.ofNat).toArray⟩:ByteArray).size=b.length:=by show(b.map UInt8.ofNat).toArray.size=_;simp
       rw[e1,e2];have:IntKind.i64.max=9223372036854775807:=by decide
       rw[this];omega
   |eql=>
    refine vJ (v:= .st a) (u:= .st b) (r:=strB .eql a b) rfl rfl rfl trivial (jG rfl λw=>?_) hr hv hm;rw[q64,eqg _ _ _ _ _ _ _ (λ_ _ h=>by cases h) (by simp[strV]),q63];exact Ch (op:= .eql) rfl ha hb w
   |neq=>
    refine vJ (v:= .st a) (u:= .st b) (r:=strB .neq a b) rfl rfl rfl trivial (jG rfl λw=>?_) hr hv hm;rw[q64,eqg _ _ _ _ _ _ _ (λ_ _ h=>by cases h) (by simp[strV]),q63];exact Ch (op:= .neq) rfl ha hb w
   |lss=>
    refine vJ (v:= .st a) (u:= .st b) (r:=strB .lss a b) rfl rfl rfl trivial (jG rfl λw=>?_) hr hv hm;rw[q64,eqg _ _ _ _ _ _ _ (λ_ _ h=>by cases h) (by simp[strV]),q63];exact Ch (op:= .lss) rfl ha hb w
   |leq=>
    refine vJ (v:= .st a) (u:= .st b) (r:=strB .leq a b) rfl rfl rfl trivial (jG rfl λw=>?_) hr hv hm;rw[q64,eqg _ _ _ _ _ _ _ (λ_ _ h=>by cases h) (by simp[strV]),q63];exact Ch (op:= .leq) rfl ha hb w
   |gtr=>
    refine vJ (v:= .st a) (u:= .st b) (r:=strB .gtr a b) rfl rfl rfl trivial (jG rfl λw=>?_) hr hv hm;rw[q64,eqg _ _ _ _ _ _ _ (λ_ _ h=>by cases h) (by simp[strV]),q63];exact Ch (op:= .gtr) rfl ha hb w
   |geq=>
    refine vJ (v:= .st a) (u:= .st b) (r:=strB .geq a b) rfl rfl rfl trivial (jG rfl λw=>?_) hr hv hm;rw[q64,eqg _ _ _ _ _ _ _ (λ_ _ h=>by cases h) (by simp[strV]),q63];exact Ch (op:= .geq) rfl ha hb w
   |_=>exact absurd rfl h1
  .exact kbad
 .split
  .exact h_ag
  .exact kbad
 .exact kbad
theorem Rw{op:BinOp}{t yt:TypeId}{x y:Operand}{v u:V}:jj D P (.binOp op t x y yt) ty [x,y] [v,u] m d (kBin P op t v u):=by
 unfold kBin;split
 .rename_i k a k' b
  cases hs:isSh op with
  |true=>exact wU (v:= .nn k a) (u:= .nn k' b) rfl rfl (λh=>Xt h)
  |false=>
   cases hk:keq k k' with
   |false=>exact kbad
   |true=>
    have:=zR hk;subst this;exact wU (v:= .nn k a) (u:= .nn k b) rfl rfl (λh=>T7 h)
 .rename_i a b
  split
  .rename_i ht
   refine wU (v:= .bb a) (u:= .bb b) rfl rfl (λh=>?_)
   cases op with
   |eql=>exact⟨rfl,trivial,Us ht rfl⟩
   |neq=>exact⟨rfl,trivial,Ut ht rfl⟩
   |_=>exact absurd rfl h
  .exact kbad
 .split
  .rename_i k a k' b h1 h2
   cases hk:keq k k'&&!isSh op with
   |false=>exact kbad
   |true=>
    rw[q4L]at hk;have:=zR hk.1;subst this;obtain⟨a1,a2⟩:=I3 h1;obtain⟨b1,b2⟩:=I3 h2;refine wU a1 b1 (λh=>?_);rw[a2,b2];exact CS h
  .exact RD
def kUn(P:Program)(op:UnOp)(v:V):KR:=
 match op,v with
 | .not,.bb b=> .val (.bb (!b)) []
 | .neg,v=>(match toI v with|some (k,z)=> .val (ofI k (k.wrap (0-z))) []|none=> .bad)
 |_,_=> .bad
theorem h_un{op:UnOp}{t:TypeId}{x:Operand}{v:V}:jj D P (.unOp op t x) ty [x] [v] m d (kUn P op v):=by
 unfold kUn;split
 .rename_i b
  exact we (v:= .bb b) (r:= .bb (!b)) rfl rfl trivial (J8 rfl)
 .split
  .rename_i k z h
   obtain⟨a1,a2⟩:=I3 h;refine we (r:=ofI k (k.wrap (0-z))) a1 (CE _ _).1 (CE _ _).2 ?_;rw[a2,A7];exact NR rfl
  .exact kbad
 .exact kbad
def D1(P:Program)(s t:TypeId)(v:V):KR:=
 match intK P t with
 |some k=> @Bool.rec (λ_=>KR) .bad (match v with
  | .nn _ n=> .val (nnW k n) []
  | .zz _ n=> .val (ofI k (k.wrap (Int.negSucc n))) []
  |_=> .bad) (P.underlying s).isSome
 |none=> .bad
theorem Nd{s t:TypeId}{x:Operand}{v:V}:jj D P (.convert s t x) ty [x] [v] m d (D1 P s t v):=by
 unfold D1;split
 .rename_i k hk
  cases hs:(P.underlying s).isSome with
  |false=>exact kbad
  |true=>
   simp only;split
   .rename_i k' n
    obtain⟨h1,h2,h3⟩:=CC D k n;refine we (v:= .nn k' n) rfl h1 h2 ?_;rw[h3];exact Y0 hs hk rfl
   .rename_i k' n
    refine we (v:= .zz k' n) rfl (CE _ _).1 (CE _ _).2 ?_;rw[A7];exact Y0 hs hk rfl
   .exact kbad
 .exact kbad
def wJ(v:V):KR:=match v with| .pp k o=> .val (.pp k o) []| .ee k i o w=> .val (.ee k i o w) []|_=> .bad
theorem RE{x:Operand}{v:V}:jj D P (.nilCheck x) ty [x] [v] m d (wJ v):=by
 unfold wJ;split
 .rename_i k o
  exact we (v:= .pp k o) (r:= .pp k o) rfl rfl trivial (A9 (IV _ _))
 .rename_i k i o w
  exact we (v:= .ee k i o w) (r:= .ee k i o w) rfl rfl trivial (A9 (IV _ _))
 .exact kbad
def capt:List V->Option (List (Key×Nat))
 |[]=>some []
 | .pp k o::r=>(match capt r with|some l=>some ((k,o)::l)|none=>none)
 |_=>none
theorem KI{β:Bm}{H:Heap}: ∀{vs:List V}{ps:List (Key×Nat)}{us:List Value},capt vs=some ps->AVs β H (vs.map (qc D)) us->LocsSat β (ps.map λp=>(p.1.num,p.2)) us/\ ∀v∈vs,v≠ .und
 |[],ps,us,h,hs=>by
  simp only[capt,q61]at h;subst h
  cases us with
  |nil=>exact⟨trivial,λv hv=>by simp at hv⟩
  |cons _ _=>exact hs.elim
 |v::r,ps,us,h,hs=>by
  unfold capt at h;split at h
  .cases h;rename_i e;cases e
  .rename_i k o r' e
   cases e;split at h
   .rename_i l hl
    cases h
    cases us with
    |nil=>exact hs.elim
    |cons u us=>
     obtain⟨h1,h2⟩:=KI hl hs.2;exact⟨⟨hs.1,h1⟩,λv hv=>by rcases q5d.1 hv with rfl|hv;simp;exact h2 v hv⟩
   .cases h
  .cases h
def EC(fn:Fn)(fs vs:List V):KR:=
 match fn with
 | .func f=>(match fs with
  |[]=>(match capt vs with|some ps=> .val (.cl f ps) []|none=> .bad)
  |[.ag w l]=>(match vs with|[]=> @Bool.rec (λ_=>KR) .bad (.val (.bf f w l) []) (allP l)|_=> .bad)
  |_=> .bad)
 |_=> .bad
theorem Hp{β:Bm}{H:Heap}: ∀{l:List CAtom}{vs:List Value},CSats H l vs->Sats β H (l.map CAtom.up) vs
 |[],[],_=>trivial
 | .val v::l,u::us,h=>⟨h.1,Hp h.2⟩
 | .abs A::l,u::us,h=>⟨h.1,Hp h.2⟩
 |[],_::_,h=>h.elim
 |_::_,[],h=>h.elim
theorem q1u{fn:Fn}{first captured:Array Operand}{fs vs:List V}(h0:first.toList.length=fs.length)(hl:captured.toList.length=vs.length):jj D P (.makeFunc fn first captured) ty (first.toList++captured.toList) (fs++vs) m d (EC fn fs vs):=by
 unfold EC;split
 .rename_i f
  split
  .have hf:first= #[]:=q4K (by simpa using h0)
   subst hf;split
   .rename_i ps hps
    intro _ hv _;refine⟨?_,λq hq=>(by simp[KR.ks]at hq),opk ?_,trivial,by simp[KR.res],trivial⟩
    .have: ∀{vs:List V}{ps:List (Key×Nat)},capt vs=some ps-> ∀v∈vs,v≠ .und:=by
      intro vs
      induction vs with
      |nil=>intro ps _ v hv;simp at hv
      |cons a r ih=>
       intro ps h v hv;unfold capt at h;split at h
       .rename_i e;cases e
       .rename_i k o r' e
        cases e;split at h
        .rename_i l hl
         rcases q5d.1 hv with rfl|hv
         .simp
         .exact ih hl v hv
        .cases h
       .cases h
     exact this hps
    .refine qk λa w H β hins _ _=>?_
     have hs:= @AVs.of_ins β H a captured.toList (vs.map (qc D)) (by simpa using hl) hins;obtain⟨h1,_⟩:=KI (D:=D) hps hs;refine⟨.func (.func f) #[] (captured.map a.eval),⟨_,?_,h1⟩,λ_ _ _ _=>?_⟩
     .congr 1;apply Array.ext';simp
     .simp only[execOp,q65,q64,q63]
      first|rfl|(simp[Instr.makeFunc])
   .exact kbad
  .rename_i w l
   split
   .cases hp:allP l with
    |false=>exact kbad
    |true=>
     have hc:captured= #[]:=q4K (by simpa using hl);subst hc
     obtain⟨x,hx⟩: ∃x,first= #[x]:=by
      have h1:first.toList.length=1:=h0
      match hq:first.toList,h1 with
      |[x],_=>exact⟨x,Array.ext' hq⟩
     subst hx;intro _ hv _;have hag:(V.ag w l).okC:=hv (.ag w l) (by simp);refine⟨λv hv=>by simp at hv;subst hv;simp,λq hq=>(by simp[KR.ks]at hq),opk ?_,⟨hag.1,λx hx=>⟨List.all_eq_true.1 hp x hx,(Md (D:=D) (List.all_eq_true.1 hp x hx)).2.1.2 (hag.2 x hx).2⟩⟩,by simp[KR.res],trivial⟩;refine qk λa w' H β hins _ _=>?_
     have hs:(qc D (.ag w l)).sat β H (a.eval x):=hins (x,qc D (.ag w l)) (by simp);obtain⟨arr,h1,h2⟩:=hs;rw[S6 hp]at h2;refine⟨.func (.func f) #[.agg arr] #[],⟨hp,arr,rfl,CSats.of_up h2⟩,λ_ _ _ _=>?_⟩;simp only[execOp,q65,q64,q63];simp[Instr.makeFunc,h1]
   .exact kbad
  .exact kbad
 .exact kbad
end
end
noncomputable section
section
variable {D:List Int} {P:Program} {m:qM} {d:Key} {ty:TypeId}
theorem zK{z:V}{zc:Array Value}{s:Nat}{β:Bm}{H:Heap}(hs:zc.size=s)(h:Sats β H (z.cells D) zc.toList): ∀n,Sats β H (flat D (List.replicate n z)) (((Array.range (n*s)).map (zc[· %zc.size]!)).toList)
 |0=>by simp[flat,Sats]
 |n+1=>by
  have ih:=zK hs h n
  have e1:flat D (List.replicate (n+1) z)=flat D (List.replicate n z)++z.cells D:=by
   rw[List.replicate_succ',Aq];simp[flat]
  have e2:(((Array.range ((n+1)*s)).map (zc[· %zc.size]!)).toList)=(((Array.range (n*s)).map (zc[· %zc.size]!)).toList)++zc.toList:=by
   apply List.ext_getElem?;intro i;simp only[Array.toList_map,Array.toList_range,List.getElem?_map];by_cases h1:i<n*s
   .rw[List.getElem?_append_left (by simpa using h1)]
    have h2:i<(n+1)*s:=by rw[q5V];omega
    simp[List.getElem?_map,List.getElem?_range h1,List.getElem?_range h2]
   .rw[List.getElem?_append_right (by simp;omega)]
    simp only[q58,List.length_range];by_cases h2:i<(n+1)*s
    .rw[List.getElem?_range h2]
     have h3:i-n*s<s:=by rw[q5V]at h2;omega
     have h4:i%zc.size=i-n*s:=by
      rw[hs];have:i=i-n*s+s*n:=by rw[q5M s n];omega
      rw[this,Nat.add_mul_mod_self_left,q5H h3];rw[q5M s n];omega
     simp only[q60,h4];have h5:i-n*s<zc.size:=by omega
     rw[getElem!_pos zc _ h5];simp[h5]
    .rw[q52 (by simp;omega),q52 (by rw[q5V]at h2;simp;omega)]
     rfl
  rw[e1,e2];exact Sats.append ih h
def elV(P:Program)(t:TypeId):V:=match P.underlying t with|some (.slice e)=>zeroV P e|_=> .und
theorem En{t:TypeId}{s b:Nat}(hb:elB P t=some (s,b))(h:elV P t≠ .und)(hsz:(elV P t).size=s): ∃z,elZ P t=some z/\z.size=s/\(elV P t).okC/\ ∀β H,Sats β H ((elV P t).cells D) z.toList:=by
 obtain⟨e,i,h1,h2,h3,h4⟩:=zL hb;unfold elV at h hsz⊢;rw[h1]at h hsz⊢;simp only at h hsz⊢;obtain⟨ti,z,hi,hz,ez,ho,hs⟩:=B0 (D:=D) h;rw[ez]at hsz⊢
 have hc: ∀β H,Sats β H ((jP z).cells D) z.cells.toList:=λβ H=>by
  rw[<-V.okC_cells ho];exact Cmp.sat_cells (hs β H)
 refine⟨z.cells,?_,?_,ho,hc⟩
 .unfold elZ;rw[h1];simp only[hi,hz];rfl
 .have:=Sats.length (hc (λ_=>none) (λ_=>none))
  rw[V.okC_size ho,hsz]at this;simpa using this.symm
def setL(s len:Nat):List V->List (Nat×V)->Option (List V)
 |L,[]=>some L
 |L,(i,v)::r=> @Bool.rec (λ_=>Option (List V)) none (setL s len (L.set i v) r) (Nat.beq v.size s&&isC v&&Nat.blt i len)
theorem Lt{s len:Nat}: ∀{l:List (Nat×V)}{L L':List V},setL s len L l=some L'->L.length=len->okE s L->(∀p∈l,p.2.ok)->
  L'.length=len/\okE s L'/\(∀p∈l,p.2.okC)/\afill (wR s) (flat D L) (l.map λp=>(p.1,p.2.cmp D))=some (flat D L')
 |[],L,L',h,hl,ho,_=>by
  simp only[setL,q61]at h;subst h
  exact⟨hl,ho,λp hp=>(by simp at hp),rfl⟩
 |(i,v)::r,L,L',h,hl,ho,hk=>by
  simp only[setL]at h
  cases hc:Nat.beq v.size s&&isC v&&Nat.blt i len with
  |false=>rw[hc]at h;cases h
  |true=>
   rw[hc]at h;simp only[q4L]at hc;obtain⟨⟨c1,c2⟩,c3⟩:=hc;have c1:=q5w c1;have c3:i<len:=by simpa using c3
   have hv:=A5 c2 (hk (i,v) q5f);obtain⟨r1,r2,r3,r4⟩:=Lt (L:=L.set i v) h (by simpa using hl) (Ke ho ⟨hv,c1⟩) (λp hp=>hk p (q5e _ hp));refine⟨r1,r2,λp hp=>?_,?_⟩
   .rcases q5d.1 hp with rfl|hp
    .exact hv
    .exact r3 p hp
   .have hvl:=V.okC_size (D:=D) hv
    have hx:L[i]?=some L[i]:=q51 (by omega);have hxo:=ho _ (q5h hx);have hxl:=V.okC_size (D:=D) hxo.1
    have hsp:=Hv (D:=D) ho (i:=i) (o:=0) (x:=L[i]) (y:=v) (u:=v.cells D) hx (by omega) (by
     unfold spl;rw[List.take_zero,q5k,q4T (by omega),List.append_nil])
    have hle:=(B6 (D:=D) ho (i:=i) (o:=0) (s:=s) hx (by omega)).2;rw[q5b];simp only[afill,wR];rw[V.okC_cells hv,hvl,c1,Nat.beq_refl,show Nat.ble (i*s+s) (flat D L).length=true by simpa using hle];simp only[Bool.and_self,cond_true];rw[q5t]at hsp;rw[hsp];exact r4
def zb(P:Program)(t:TypeId)(len:Nat)(is:List Nat)(vs:List V)(d:Key):KR:=
 match elB P t with
 |some (s,_)=> @Bool.rec (λ_=>KR) .bad (match setL s len (List.replicate len (elV P t)) (List.zip is vs)with
   |some L=> .nw (.sl d 0 len len s) [] (.arr s len (Sq.pushL .e 0 L))
   |none=> .bad) (Nat.ble (len*s) 16777216&&Nat.beq is.length vs.length&&!isU (elV P t)&&Nat.beq (elV P t).size s)
 |none=> .bad
theorem Cs{t:TypeId}{len:Nat}{parts:Array (Nat×Operand)}{vs:List V}:jj D P (.buildSlice t len parts) ty (parts.toList.map (·.2)) vs m d (zb P t len (parts.toList.map (·.1)) vs d):=by
 unfold zb;split
 .rename_i s b hb
  cases hc:Nat.ble (len*s) 16777216&&Nat.beq (parts.toList.map (·.1)).length vs.length&&!isU (elV P t)&&Nat.beq (elV P t).size s with
  |false=>exact kbad
  |true=>
   simp only[q4L,q4N]at hc;obtain⟨⟨⟨c1,c2⟩,c3⟩,c4⟩:=hc;have c2:=q5w c2;have c4:=q5w c4;simp only;split
   .rename_i L hL
    intro _ hv _;obtain⟨z,hz,hzs,hzo,hzc⟩:=En (D:=D) hb (vU c3) c4;have hsnd:=wz c2
    have ho0:okE s (List.replicate len (elV P t)):=λx hx=>by
     rw[(List.mem_replicate.1 hx).2];exact⟨hzo,c4⟩
    obtain⟨r1,r2,r3,r4⟩:=Lt (D:=D) hL (by simp) ho0 (λp hp=>hv p.2 (by rw[<-hsnd];exact List.mem_map.2 ⟨p,hp,rfl⟩))
    have hvc: ∀v∈vs,v.okC:=λv hv'=>by
     rw[<-hsnd]at hv';obtain⟨p,hp,rfl⟩:=List.mem_map.1 hv';exact r3 p hp
    have hav:vs.map (qc D)=(vs.map (V.cmp D)).map AV.c:=by
     rw[List.map_map];exact List.map_congr_left λv hv'=>zA (hvc v hv')
    have hbr:Br (Sq.pushL .e 0 L) len:=by have:=Br.pushL (l:=L) (Br.e (α:=V));rwa [q5W,r1]at this
    have htl:Sq.toL .und (Sq.pushL .e 0 L) 0 len=L:=by have:=AX V.und L;rwa [r1]at this
    refine⟨λy hy=>vO (hvc y hy),λq hq=>(by simp[KR.ks]at hq),?_,trivial,by simp[KR.res],⟨hbr,by rw[htl];exact r2⟩⟩;show OpK P (.buildSlice t len parts) ty (List.zip (parts.toList.map (·.2)) (vs.map (qc D))) [] (.c (.one (.sl d.num (0*s) len len))) [(d.num,some (.rigid (flat D (Sq.toL .und (Sq.pushL .e 0 L) 0 len))))] d.num;rw[hav,htl,q5Y];rw[Hg]at r4;intro dst pos after guard a w H β K Q h1 _ _ h4 h5 hK
    obtain⟨T,arr,hrun,hsat⟩:=Dd (a:=a) (β:=β) (H:=H) hb hz c1 (by
     have:=zK (D:=D) hzs (hzc β H) len
     exact this) (by rw[q58]at c2⊢;simpa using c2) r4 h1 w
    unfold Oper.wp
    have he:(execOp a.eval ⟨dst,.buildSlice t len parts,ty,pos,after,guard⟩).run P w= .ok (.value (.slice (some ⟨w.heap.size,0,none⟩) len len)) (w.alloc (.cells arr T)):=by
     simp only[execOp,q64,hrun,q63,q65]
    rw[he];refine hK _ _ H (β.set d.num (some (w.heap.size,len))) ?_ ⟨_,_,Bm.set_same _ _ _,rfl⟩ ?_
    .simpa[kwOf,qu,jk,look]using Step.alloc (β:=β) d.num len (.cells arr T) h4
    .intro k' b' hb'
     simp only[q5j,q62,q61]at hb';obtain⟨rfl,rfl⟩:=hb';refine⟨w.heap.size,len,arr,T,Bm.set_same _ _ _,vS w _,Sats.congr (Heap.Le.refl _) (λk'' hk''=>?_) hsat⟩;refine Bm.set_other _ _ λe=>?_
     subst e;exact absurd (h5 (by simp[qu,look])) (Sats.str (Ar L) hsat hk'')
   .exact kbad
 .exact kbad
theorem Kn{t:TypeId}{s b:Nat}{z:Array Value}(hb:elB P t=some (s,b))(hz:elZ P t=some z)(k k':IntKind)(l n:Nat)(hln:l<=n)(hn:n*b<=281474976710656)(hn2:n<9223372036854775808)(hs:0<s)(w:World):
  ∃T,(Instr.makeSlice t (.int k l) (.int k' n)).run P w= .ok (.slice (some ⟨w.heap.size,0,none⟩) l n) (w.alloc (.cells ((Array.range (n*s)).map (z[· %z.size]!)) T)):=by
 obtain⟨e,i,h1,h2,rfl,rfl⟩:=zL hb;obtain⟨e',i',v,h1',h2',hz',rfl⟩:=Ao hz;rw[h1]at h1';cases h1'
 rw[h2]at h2';cases h2'
 refine⟨e,?_⟩;have hw:IntKind.i64.wrap (n:Int)=(n:Int):=Dn hn2;have hwl:IntKind.i64.wrap (l:Int)=(l:Int):=Dn (by omega)
 have hbig: ¬((i.bytes:Int)*(n:Int)>2^48):=by
  have:(i.bytes:Int)*n<=281474976710656:=by
   rw[<-q4O,q5M];exact Int.ofNat_le.2 hn
  omega
 have hneg: ¬((n:Int)<0):=by omega
 have hnegl: ¬((l:Int)<0):=by omega
 simp only[Instr.makeSlice,q64,qd h1,q63,asInt,asIntOf,q65,zp h2,hw,hwl];have hc1: ¬((l:Int)>(n:Int)):=by omega
 have hcond':(((decide ((n:Int)<0)||decide ((i.bytes:Int)*(n:Int)>2^48))||decide ((l:Int)<0)||decide ((l:Int)>(n:Int))))=false:=by
  simp only[hneg,hbig,hc1,hnegl,decide_false,Bool.or_false]
 simp only[hcond',q4M,if_false,run_askRoom,q64,q63,j7 h2,q4Q];by_cases h0:n*i.size=0
 .have:n=0:=by
   rcases Nat.mul_eq_zero.1 h0 with h|h
   .exact h
   .omega
  subst this;have hm: ∀f:Nat->Value,(Array.range 0).map f= #[]:=by intro f;simp
  simp only[q5Y,if_true,q65,q63,newRow,q64,run_newObj];rw[hm,hm];rfl
 .simp only[h0,if_false,q64,jy h2 hz',q63,q65,newRow,run_newObj]
  rfl
def zE(P:Program)(t:TypeId)(x y:V)(d:Key):KR:=
 match x,y with
 | .nn _ l,.nn _ n=>(match elB P t with
  |some (s,b)=> @Bool.rec (λ_=>KR) .bad (.nw (.sl d 0 l n s) [] (.arr s n (Sq.pushL .e 0 (List.replicate n (elV P t)))))
    (Nat.ble l n&&Nat.ble (n*b) 281474976710656&&Nat.blt n 9223372036854775808&&Nat.blt 0 s&&!isU (elV P t)&&Nat.beq (elV P t).size s)
  |none=> .bad)
 |_,_=> .bad
theorem Pa{t:TypeId}{x y:Operand}{u v:V}:jj D P (.makeSlice t x y) ty [x,y] [u,v] m d (zE P t u v d):=by
 unfold zE;split
 .rename_i k1 l k2 n
  split
  .rename_i s b hb
   cases hc:Nat.ble l n&&Nat.ble (n*b) 281474976710656&&Nat.blt n 9223372036854775808&&Nat.blt 0 s&&!isU (elV P t)&&Nat.beq (elV P t).size s with
   |false=>exact kbad
   |true=>
    simp only[q4L,q4N]at hc;obtain⟨⟨⟨⟨⟨c1,c2⟩,c3⟩,c4⟩,c5⟩,c6⟩:=hc;have c1:l<=n:=by simpa using c1
    have c2:n*b<=281474976710656:=by simpa using c2
    have c3:n<9223372036854775808:=by simpa using c3
    have c4:0<s:=by simpa using c4
    have c6:=q5w c6;intro _ hv _;obtain⟨z,hz,hzs,hzo,hzc⟩:=En (D:=D) hb (vU c5) c6;have hbr:Br (Sq.pushL .e 0 (List.replicate n (elV P t))) n:=by have:=Br.pushL (l:=List.replicate n (elV P t)) (Br.e (α:=V));rwa [q5W,List.length_replicate]at this
    have htl:Sq.toL .und (Sq.pushL .e 0 (List.replicate n (elV P t))) 0 n=List.replicate n (elV P t):=by have:=AX V.und (List.replicate n (elV P t));rwa [List.length_replicate]at this
    refine⟨λw hw=>(by simp at hw;rcases hw with rfl|rfl<;>simp),λq hq=>(by simp[KR.ks]at hq),?_,trivial,by simp[KR.res],⟨hbr,by
     rw[htl];intro x hx;rw[(List.mem_replicate.1 hx).2];exact⟨hzo,c6⟩⟩⟩
    show OpK P (.makeSlice t x y) ty [(x,qb k1 l),(y,qb k2 n)] [] (.c (.one (.sl d.num (0*s) l n))) [(d.num,some (.rigid (flat D (Sq.toL .und (Sq.pushL .e 0 (List.replicate n (elV P t))) 0 n))))] d.num;rw[htl,q5Y];intro dst pos after guard a w H β K Q h1 _ _ h4 h5 hK;have hx:=(h1 _ q5f).1;have hy:=(h1 (y,qb k2 n) (by simp)).1;simp only at hx hy;obtain⟨T,hrun⟩:=Kn hb hz k1 k2 l n c1 c2 c3 c4 w;unfold Oper.wp
    have he:(execOp a.eval ⟨dst,.makeSlice t x y,ty,pos,after,guard⟩).run P w= .ok (.value (.slice (some ⟨w.heap.size,0,none⟩) l n)) (w.alloc (.cells ((Array.range (n*s)).map (z[· %z.size]!)) T)):=by
     simp only[execOp,hx,hy,q64,hrun,q63,q65]
    rw[he];refine hK _ _ H (β.set d.num (some (w.heap.size,n))) ?_ ⟨_,_,Bm.set_same _ _ _,rfl⟩ ?_
    .simpa[kwOf,qu,jk,look]using Step.alloc (β:=β) d.num n (.cells _ T) h4
    .intro k' b' hb'
     simp only[q5j,q62,q61]at hb';obtain⟨rfl,rfl⟩:=hb';exact⟨w.heap.size,n,_,T,Bm.set_same _ _ _,vS w _,zK hzs (hzc _ _) n⟩
  .exact kbad
 .exact kbad
def Ma:Option V->Option (Option (IntKind×Nat))
 |none=>some none
 |some (.nn k n)=>some (some (k,n))
 |_=>none
def loN(l:Option (IntKind×Nat)):Nat:=match l with|some p=>p.2|none=>0
def hiN(n:Nat)(l:Option (IntKind×Nat)):Nat:=match l with|some p=>p.2|none=>n
def JX(P:Program)(t:TypeId)(x:V)(lo hi:Option (IntKind×Nat)):KR:=
 match jx P t with
 |some es=>(match x with
  | .sl k q n c w=>(λl r=> @Bool.rec (λ_=>KR) .bad (.val (.sl k (q+l) (r-l) (c-l) w) []) (Nat.beq es w&&Nat.ble l r&&Nat.ble r c&&Nat.blt l c))
    (loN lo) (hiN n hi)
  | .gs k q n w=>(λl r=> @Bool.rec (λ_=>KR) .bad (@Bool.rec (λ_=>KR) (.val .em []) (.val (.gs k (q+l) (r-l) w) []) (Nat.beq l 0||Nat.blt l n)) (Nat.beq es w&&Nat.ble l r&&Nat.ble r n))
    (loN lo) (hiN n hi)
  | .uu (.slice none 0 0)=> @Bool.rec (λ_=>KR) .bad (.val (.uu (.slice none 0 0)) []) (Nat.beq (loN lo) 0&&Nat.beq (hiN 0 hi) 0)
  |_=> .bad)
 |none=> .bad
def vV(P:Program)(t:TypeId)(x:V)(lo hi:Option V):KR:=
 match Ma lo,Ma hi with
 |some l,some h=>JX P t x l h
 |_,_=> .bad
theorem IU{v:Option V}{l:Option (IntKind×Nat)}(h:Ma v=some l):v=l.map λp=> .nn p.1 p.2:=by
 unfold Ma at h;split at h<;>first|(cases h;rfl)|cases h
theorem D8{t e:TypeId}{ie:TypeInfo}{x:Operand}{lo hi:Option Operand}{lv hv:Option (IntKind×Nat)}{u r:Atom}{l h:Nat}(h1:P.underlying t=some (.slice e))(h2:P.info? e=some ie)
  (hll:lo.isSome=lv.isSome)(hhl:hi.isSome=hv.isSome)
  (hu: ∀β H v,u.sat β H v-> ∃a n c,v= .slice a n c/\loN lv=l/\hiN n hv=h/\l<=h/\h<=c/\r.sat β H (.slice (if c=l then a else a.map (·.add (l*ie.size))) (h-l) (c-l))):
  OpOk P (.slice t x lo hi none) ty (List.zip (x::(lo.toList++hi.toList)) (.c (.one u)::((lv.map λp=>qb p.1 p.2).toList++(hv.map λp=>qb p.1 p.2).toList))) [] (.c (.one r)) []:=
 qk λa w H β hins _ _=>by
  have hx:u.sat β H (a.eval x):=hins (x,.c (.one u)) (by simp);obtain⟨b,n,c,hxe,e1,e2,e3,e4,e5⟩:=hu β H _ hx
  have hlo:lo.map a.eval=lv.map λp=> .int p.1 (p.2:Int):=by
   cases lo with
   |none=>cases lv with|none=>rfl|some p=>simp at hll
   |some o=>cases lv with
    |none=>simp at hll
    |some p=>
     have:=(hins (o,qb p.1 p.2) (by simp)).1;simp only[q60];rw[this]
  have hhi:hi.map a.eval=hv.map λp=> .int p.1 (p.2:Int):=by
   cases hi with
   |none=>cases hv with|none=>rfl|some p=>simp at hhl
   |some o=>cases hv with
    |none=>simp at hhl
    |some p=>
     have:(qb p.1 p.2).sat β H (a.eval o):=by
      cases lo with
      |none=>cases lv with
       |none=>exact hins (o,qb p.1 p.2) (by simp)
       |some q=>simp at hll
      |some o'=>cases lv with
       |none=>simp at hll
       |some q=>exact hins (o,qb p.1 p.2) (by simp)
     have:=this.1;simp only[q60];rw[this]
  have hsl:=zf (P:=P) h1 h2 b n c (lv.map λp=>(p.1,(p.2:Int))) (hv.map λp=>(p.1,(p.2:Int))) (l:=l) (r:=h) (by cases lv with|none=>simp only[loN]at e1;subst e1;rfl|some p=>simp only[loN]at e1;subst e1;rfl) (by cases hv with|none=>simp only[hiN]at e2;subst e2;rfl|some p=>simp only[hiN]at e2;subst e2;rfl) e3 e4 w;refine⟨_,e5,λ_ _ _ _=>?_⟩;simp only[Option.map_map,Function.comp_def]at hsl;simp only[execOp,hlo,hhi,hxe,q5Z,q64,hsl,q63,q65]
theorem Gv{t:TypeId}{x:Operand}{lo hi:Option Operand}{v:V}{lv hv:Option V}(hll:lo.isSome=lv.isSome)(hhl:hi.isSome=hv.isSome):
  jj D P (.slice t x lo hi none) ty (x::(lo.toList++hi.toList)) (v::(lv.toList++hv.toList)) m d (vV P t v lv hv):=by
 unfold vV;split
 .rename_i l h hl hh
  have el:=IU hl;have eh:=IU hh
  have hav: ∀u:V,(u::(lv.toList++hv.toList)).map (qc D)=qc D u::((l.map λp=>qb p.1 p.2).toList++(h.map λp=>qb p.1 p.2).toList):=by
   intro u;rw[el,eh];cases l<;>cases h<;>rfl
  have hne: ∀u:V,u≠ .und-> ∀y∈u::(lv.toList++hv.toList),y≠ .und:=by
   intro u hu y hy;rw[el,eh]at hy;cases l<;>cases h<;>simp at hy<;>rcases hy with rfl|hy<;>first|exact hu|(rcases hy with rfl|rfl<;>simp)|(subst hy;simp)
  have hlI:lo.isSome=l.isSome:=by rw[hll,el];cases l<;>rfl
  have hhI:hi.isSome=h.isSome:=by rw[hhl,eh];cases h<;>rfl
  unfold JX;split
  .rename_i es hs
   obtain⟨e,ie,h1,h2,rfl⟩:=jo hs;split
   .rename_i k q n c w
    simp only
    cases hc:Nat.beq ie.size w&&Nat.ble (loN l) (hiN n h)&&Nat.ble (hiN n h) c&&Nat.blt (loN l) c with
    |false=>exact kbad
    |true=>
     simp only[q4L]at hc;obtain⟨⟨⟨c1,c2⟩,c3⟩,c4⟩:=hc;have c1:=q5w c1;subst c1;generalize hl0:loN l=l0 at*;generalize hr0:hiN n h=r0 at*;have c2:l0<=r0:=by simpa using c2
     have c3:r0<=c:=by simpa using c3
     have c4:l0<c:=by simpa using c4
     refine kval λ_=>⟨hne _ (by simp),?_,trivial,by simp⟩
     rw[hav];refine D8 (l:=l0) (h:=r0) h1 h2 hlI hhI λβ H y hy=>?_
     obtain⟨b,c',hβ,rfl⟩:=hy;refine⟨_,_,_,rfl,hl0,hr0,c2,c3,b,c',hβ,?_⟩;rw[if_neg (by omega)];simp only[q60,ji];rw[q5s]
   .rename_i k q n w
    simp only
    cases hc:Nat.beq ie.size w&&Nat.ble (loN l) (hiN n h)&&Nat.ble (hiN n h) n with
    |false=>exact kbad
    |true=>
     simp only[q4L]at hc;obtain⟨⟨c1,c2⟩,c3⟩:=hc;have c1:=q5w c1;subst c1;generalize hl0:loN l=l0 at*;generalize hr0:hiN n h=r0 at*;have c2:l0<=r0:=by simpa using c2
     have c3:r0<=n:=by simpa using c3
     cases c4:(Nat.beq l0 0||Nat.blt l0 n)with
     |false=>
      have c5: ¬l0<n:=λhh=>by rw[show Nat.blt l0 n=true by simpa using hh]at c4;simp at c4
      refine kval λ_=>⟨hne _ (by simp),?_,trivial,by simp⟩
      rw[hav];refine D8 (l:=l0) (h:=r0) h1 h2 hlI hhI λβ H y hy=>?_
      obtain⟨b,c',hβ,hc',rfl⟩:=hy;refine⟨_,_,_,rfl,hl0,hr0,c2,by omega,?_⟩;rw[show r0-l0=0 by omega];split
      .exact⟨_,_,rfl⟩
      .exact⟨_,_,rfl⟩
     |true=>
     simp only[Bool.or_eq_true]at c4;refine kval λ_=>⟨hne _ (by simp),?_,trivial,by simp⟩
     rw[hav];refine D8 (l:=l0) (h:=r0) h1 h2 hlI hhI λβ H y hy=>?_
     obtain⟨b,c',hβ,hc',rfl⟩:=hy;refine⟨_,_,_,rfl,hl0,hr0,c2,by omega,b,c',hβ,by omega,?_⟩;have e2:c'-q-l0=c'-(q+l0):=by omega
     rw[e2];rcases c4 with c4|c4
     .have c4:=q5w c4
      rw[c4];split
      .simp
      .simp[ji]
     .have c4:l0<n:=by simpa using c4
      rw[if_neg (by omega)];simp only[q60,ji];rw[q5s]
   .cases hc:Nat.beq (loN l) 0&&Nat.beq (hiN 0 h) 0 with
    |false=>exact kbad
    |true=>
     rw[q4L]at hc;have c1:=q5w hc.1;have c2:=q5w hc.2;refine kval λhv=>⟨hne _ (by simp),?_,hv (.uu (.slice none 0 0)) (by simp),by simp⟩
     rw[hav];refine D8 (l:=0) (h:=0) h1 h2 hlI hhI λβ H y hy=>?_
     obtain⟨rfl,_⟩:=hy;exact⟨_,_,_,rfl,c1,c2,q5B _,q5B _,rfl,rfl⟩
   .exact kbad
  .exact kbad
 .exact kbad
def nlimb(n:Nat):Nat:= @Bool.rec (λ_=>Nat) (Nat.succ (Nat.div (Nat.log2 n) 32)) 0 (Nat.beq n 0)
theorem Lf{n:Nat}(h:n≠0):nlimb n=n.log2/32+1:=by
 unfold nlimb;rw[js h];rfl
theorem Ub: ∀n:Nat,(limbs n).length=nlimb n:=by
 intro n
 induction n using Nat.strongRecOn with
 |_ n ih=>
  by_cases h:n=0
  .subst h;rfl
  .rw[vM h,q56,ih _ (by omega),Lf h]
   by_cases hm:n/4294967296=0
   .rw[hm]
    have h1:n<2^32:=by omega
    have h2:n.log2<32:=(Nat.log2_lt h).2 h1;show 0+1=_;omega
   .rw[Lf hm]
    have h1:=Nat.log2_self_le hm;have h2:= @Nat.lt_log2_self (n/4294967296);generalize(n/4294967296).log2=k at h1 h2
    have h3:n.log2=k+32:=by
     refine(Nat.log2_eq_iff h).2 ⟨?_,?_⟩
     .rw[q5R];omega
     .rw[show k+32+1=(k+1)+32 by omega,q5R];omega
    rw[h3];omega
def kLen(P:Program)(t:TypeId)(v:V):KR:=
 @Bool.rec (λ_=>KR) .bad (match v with
  | .sl _ _ n _ _=> .val (.nn .i64 n) []
  | .gs _ _ n _=> .val (.nn .i64 n) []
  | .em=> .val (.nn .i64 0) []
  | .uu (.slice none n _)=> .val (.nn .i64 n) []
  | .mg n=> .val (.nn .i64 (nlimb n)) []
  |_=> .bad) (jB P t)
theorem Ry{t:TypeId}{x:Operand}{v:V}:jj D P (.call {callee:= .builtin .len,args:= #[x],argTypes:= #[t]}) ty [x] [v] m d (kLen P t v):=by
 unfold kLen
 cases hs:jB P t with
 |false=>exact kbad
 |true=>
  unfold jB at hs;split at hs
  .rename_i e he
   simp only;split
   .rename_i k q n c w
    exact we (v:= .sl k q n c w) (r:= .nn .i64 n) rfl rfl trivial (A8 he λβ H y hy=>by obtain⟨b,c',_,rfl⟩:=hy;exact⟨_,_,rfl⟩)
   .rename_i k q n w
    exact we (v:= .gs k q n w) (r:= .nn .i64 n) rfl rfl trivial (A8 he λβ H y hy=>by obtain⟨b,c',_,_,rfl⟩:=hy;exact⟨_,_,rfl⟩)
   .exact we (v:= .em) (r:= .nn .i64 0) rfl rfl trivial (A8 he λβ H y hy=>by obtain⟨a,c',rfl⟩:=hy;exact⟨_,_,rfl⟩)
   .rename_i n c
    exact we (v:= .uu (.slice none n c)) (r:= .nn .i64 n) rfl rfl trivial (A8 he λβ H y hy=>by obtain⟨rfl,_⟩:=hy;exact⟨_,_,rfl⟩)
   .rename_i n
    exact we (v:= .mg n) (r:= .nn .i64 (nlimb n)) rfl rfl trivial (A8 he λβ H y hy=>by obtain⟨b,c,rfl,_⟩:=hy;rw[<-Ub];exact⟨_,_,rfl⟩)
   .exact kbad
  .cases hs
end
end
noncomputable section
def srcL(m:qM)(s:Nat)(v:V):Option (List V×List (Key×KB)):=
 match v with
 | .uu (.slice none 0 0)=>some ([],[])
 | .sl k lo n c w=>(match mget m k with
  |some (.arr es N q)=> @Bool.rec (λ_=>Option (List V×List (Key×KB))) none (some (Sq.toL .und q lo n,[(k,.arr es N q)])) (Nat.beq w es&&Nat.beq es s&&Nat.ble (lo+n) N)
  |_=>none)
 | .gs k lo n w=>(match mget m k with
  |some (.gro es N q)=> @Bool.rec (λ_=>Option (List V×List (Key×KB))) none (some (Sq.toL .und q lo n,[(k,.gro es N q)])) (Nat.beq w es&&Nat.beq es s&&Nat.ble (lo+n) N)
  |_=>none)
 | .em=>some ([],[])
 |_=>none
def appL (m : qM) (s bytes : Nat) (x : V) (xs : List V) (ks : List (Key × KB)) (d : Key) : KR :=
 match xs with
 | [] => (match x with
  | .uu (.slice none 0 0) => .val (.uu (.slice none 0 0)) ks
  | .sl k lo n c w => @Bool.rec (λ_ => KR) .bad (.val (.sl k lo n c w) ks) (Nat.ble n c)
  | .gs k lo n w => .val (.gs k lo n w) ks
  | _ => .bad)
 | x0 :: xr => (match x with
  | .uu (.slice none 0 0) => @Bool.rec (λ_ => KR) .bad (.nw (.gs d 0 (x0 :: xr).length s) ks (.gro s (x0 :: xr).length (Sq.pushL .e 0 (x0 :: xr)))) (Nat.ble ((2 * (x0 :: xr).length + 1000) * bytes) 281474976710656)
  | .sl k lo n c w => (match mget m k with
   | some (.arr es N q) => @Bool.rec (λ_ => KR) .bad
     (@Bool.rec (λ_ => KR) (.nw (.gs d 0 (n + (x0 :: xr).length) s) ((k, .arr es N q) :: ks) (.gro s (n + (x0 :: xr).length) (Sq.pushL .e 0 (Sq.toL .und q lo n ++ (x0 :: xr)))))
      (.wr (.sl k lo (n + (x0 :: xr).length) c w) ((k, .arr es N q) :: ks) k (.arr es N (Sq.overL q (lo + n) (x0 :: xr)))) (Nat.ble (n + (x0 :: xr).length) c))
     (Nat.beq w es && Nat.beq es s && Nat.ble (lo + c) N && Nat.ble n c && Nat.ble ((2 * (n + (x0 :: xr).length) + 1000) * bytes) 281474976710656)
   | _ => .bad)
  | .gs k lo n w => (match mget m k with
   | some (.gro es N q) => @Bool.rec (λ_ => KR) .bad
     (@Bool.rec (λ_ => KR)
      (@Bool.rec (λ_ => KR) .bad (.mv (.gs d 0 (n + (x0 :: xr).length) s) ((k, .gro es N q) :: ks) k (.gro s (n + (x0 :: xr).length)
       (@Bool.rec (λ_ => Sq V) (Sq.pushL .e 0 (Sq.toL .und q 0 n ++ (x0 :: xr))) (Sq.pushL q n (x0 :: xr)) (Nat.beq n N)))) (Nat.beq lo 0 && Nat.blt 0 N))
      (.wr (.gs k lo (n + (x0 :: xr).length) w) ((k, .gro es N q) :: ks) k (.gro es N (Sq.overL q (lo + n) (x0 :: xr)))) (Nat.ble (lo + n + (x0 :: xr).length) N))
     (Nat.beq w es && Nat.beq es s && Nat.ble (lo + n) N && Nat.ble ((2 * (n + (x0 :: xr).length) + 1000) * bytes) 281474976710656)
   | _ => .bad)
  | _ => .bad)
def zOk(P:Program)(t:TypeId)(s:Nat):Bool:=match elZ P t with|some z=>Nat.beq z.size s|none=>false
def isNo{α:Type}(o:Option α):Bool:=match o with|none=>true|some _=>false
def Ms(P:Program)(ts tx:TypeId)(m:qM)(s b:Nat)(y:V):Option (List V×List (Key×KB)):=
 match y with
 | .nn _ n=> @Bool.rec (λ_=>Option (List V×List (Key×KB))) none (some (List.replicate n (elV P ts),[])) ((intK P tx).isSome&&!isU (elV P ts)&&Nat.beq (elV P ts).size s&&Nat.blt n 1000000&&Nat.ble (n*b) 281474976710656)
 |y=> @Bool.rec (λ_=>Option (List V×List (Key×KB))) none (srcL m s y) (jB P tx)
def DK(P:Program)(ts tx:TypeId)(m:qM)(x y:V)(d:Key):KR:=
 match elB P ts with
 |some (s,b)=> @Bool.rec (λ_=>KR) .bad (match Ms P ts tx m s b y with|some (xs,ks)=>appL m s b x xs ks d|none=> .bad) (Nat.blt 0 s&&Nat.blt 0 b&&zOk P ts s&&isNo (mget m d))
 |none=> .bad
def ovr(m:qM)(s:Nat)(x:V)(ks:List (Key×KB))(r:Nat->V)(f:Nat->List V)(r0:V):KR:=
 match x with
 | .uu (.slice none 0 0)=> .val r0 ks
 | .sl k lo n c w=>(match mget m k with
  |some (.arr es N q)=> @Bool.rec (λ_=>KR) .bad (.wr (r n) ((k,.arr es N q)::ks) k (.arr es N (Sq.overL q lo (f n)))) (Nat.beq w es&&Nat.beq es s&&Nat.ble (lo+n) N)
  |_=> .bad)
 | .gs k lo n w=>(match mget m k with
  |some (.gro es N q)=> @Bool.rec (λ_=>KR) .bad (.wr (r n) ((k,.gro es N q)::ks) k (.gro es N (Sq.overL q lo (f n)))) (Nat.beq w es&&Nat.beq es s&&Nat.ble (lo+n) N)
  |_=> .bad)
 | .em=> .val r0 ks
 |_=> .bad
def RH(P:Program)(ts:TypeId)(m:qM)(x y:V):KR:=
 match elB P ts with
 |some (s,b)=>(match srcL m s y with
  |some (xs,ks)=>ovr m s x ks (λn=> .nn .i64 (Nat.min xs.length n)) (λn=>xs.take n) (.nn .i64 0)
  |none=> .bad)
 |none=> .bad
def Np(P:Program)(ts:TypeId)(m:qM)(x:V):KR:=
 match elB P ts with
 |some (s,b)=> @Bool.rec (λ_=>KR) .bad (ovr m s x [] (λ_=> .tu []) (λn=>List.replicate n (elV P ts)) (.tu [])) (!isU (elV P ts)&&Nat.beq (elV P ts).size s)
 |none=> .bad
def elT(P:Program)(t:TypeId):Option (Nat×Nat×Bool):=
 match P.underlying t with
 |some (.array n e)=>(match qQ P e with|some (g,s)=>some (n,s,g)|none=>none)
 |_=>none
def Gz(P:Program)(t:TypeId)(x i:V):KR:=
 match elT P t,i with
 |some (n,s,g),.nn _ j=> @Bool.rec (λ_=>KR) .bad (ldS g s x (j*s) []) (isC x&&!x.on&&Nat.blt j n)
 |_,_=> .bad
def getN(l:List Nat):Nat->Option Nat:= @List.rec Nat (λ_=>Nat->Option Nat) (λ_=>none) (λa _ ih j=> @Nat.rec (λ_=>Option Nat) (some a) (λp _=>ih p) j) l
def GA(P:Program)(t:TypeId)(l:List Nat)(i:V):KR:=
 match i with
 | .nn _ j=>(match P.underlying t with
  |some .string=>(match getN l j with|some b=> .val (.nn .u8 b) []|none=> .bad)
  |_=> .bad)
 |_=> .bad
def Cy(P:Program)(t:TypeId)(x i:V):KR:=
 match x with
 | .st l=>GA P t l i
 |x=>Gz P t x i
def kCap(P:Program)(t:TypeId)(v:V):KR:=
 @Bool.rec (λ_=>KR) .bad (match v with
  | .sl _ _ _ c _=> .val (.nn .i64 c) []
  | .uu (.slice none _ c)=> .val (.nn .i64 c) []
  |_=> .bad) (jB P t)
def AB(mx:Bool)(x y:V):KR:=
 match x,y with
 | .nn k a,.nn k' b=> @Bool.rec (λ_=>KR) .bad (.val (.nn k (@Bool.rec (λ_=>Nat) (Nat.min a b) (Nat.max a b) mx)) []) (keq k k')
 | .zz k a,.nn k' b=> @Bool.rec (λ_=>KR) .bad (.val (@Bool.rec (λ_=>V) (.zz k a) (.nn k b) mx) []) (keq k k')
 | .nn k a,.zz k' b=> @Bool.rec (λ_=>KR) .bad (.val (@Bool.rec (λ_=>V) (.zz k b) (.nn k a) mx) []) (keq k k')
 | .zz k a,.zz k' b=> @Bool.rec (λ_=>KR) .bad (.val (.zz k (@Bool.rec (λ_=>Nat) (Nat.max a b) (Nat.min a b) mx)) []) (keq k k')
 |_,_=> .bad
def beqN(a:List Nat):List Nat->Bool:= @List.rec Nat (λ_=>List Nat->Bool) (λb=> @List.rec Nat (λ_=>Bool) true (λ_ _ _=>false) b)
 (λx _ ih b=> @List.rec Nat (λ_=>Bool) false (λy r _=> @Bool.rec (λ_=>Bool) false (ih r) (Nat.beq x y)) b) a
theorem Ed{a b:List Nat}:beqN a b=true↔a=b:=by
 induction a generalizing b with
 |nil=>cases b with
  |nil=>exact⟨λ_=>rfl,λ_=>rfl⟩
  |cons y r=>exact⟨λh=>(by cases h),λh=>(by cases h)⟩
 |cons x a ih=>cases b with
  |nil=>exact⟨λh=>(by cases h),λh=>(by cases h)⟩
  |cons y r=>
   show @Bool.rec (λ_=>Bool) false (beqN a r) (Nat.beq x y)=true↔_
   cases h:Nat.beq x y with
   |true=>rw[q5w h];simp[ih]
   |false=>exact⟨λh=>(by cases h),λe=>(by cases e;simp at h)⟩
def Gj:List V->Option (List Nat)
 |[]=>some []
 | .nn .u8 n::r=>(match Gj r with|some l=> @Bool.rec (λ_=>Option (List Nat)) none (some (n::l)) (Nat.blt n 256)|none=>none)
 |_=>none
def u8E(P:Program)(s:TypeId):Bool:=match P.underlying s with|some (.slice e)=>(match P.underlying e with|some (.int .u8)=>true|_=>false)|_=>false
def EB(P:Program)(t:TypeId):Bool:=match P.underlying t with|some .string=>true|_=>false
def No(P:Program)(m:qM)(s t:TypeId)(v:V):KR:=
 @Bool.rec (λ_=>KR) .bad (match srcL m 1 v with|some (xs,ks)=>(match Gj xs with|some l=> .val (.st l) ks|none=> .bad)|none=> .bad) (u8E P s&&EB P t)
def wo(P:Program)(m:qM)(s t:TypeId)(v:V):KR:=match intK P t with|some _=>D1 P s t v|none=>No P m s t v
def mapS(P:Program)(t:TypeId):Option (Nat×TypeId):=
 match P.underlying t with
 |some (.map kt et)=>(match P.underlying kt with
  |some .string=>some (1,et)
  |some (.int k)=> @Bool.rec (λ_=>Option (Nat×TypeId)) none (some (2,et)) (keq k .i64)
  |some (.array n e)=>(match P.underlying e with
   |some (.int k)=> @Bool.rec (λ_=>Option (Nat×TypeId)) none (some (0,et)) (keq k .i64&&(Nat.beq n 2&&(Nat.beq (P.cellsOf e) 1&&(Nat.beq (P.cellsOf kt) 2&&Nat.blt 0 P.types.size))))
   |_=>none)
  |_=>none)
 |_=>none
def iB(a b:V):Bool:=match a with
 | .nn .i64 n=>(match b with| .nn .i64 n'=>Nat.beq n n'|_=>false)
 | .zz .i64 n=>(match b with| .zz .i64 n'=>Nat.beq n n'|_=>false)
 |_=>false
def kyB(a b:V):Bool:=match a with
 | .st l=>(match b with| .st l'=>beqN l l'|_=>false)
 | .ag _ [x,y]=>(match b with| .ag _ [x',y']=> @Bool.rec (λ_=>Bool) false (iB y y') (iB x x')|_=>false)
 |a=>iB a b
def intB(v:V):Bool:=match v with| .nn .i64 n=>Nat.ble n 4611686018427387904| .zz .i64 n=>Nat.blt n 4611686018427387904|_=>false
def kOkB(s:Nat)(k:V):Bool:=match k with
 | .st l=> @Bool.rec (λ_=>Bool) false (Nat.ble (lenN l) 1000000) (Nat.beq s 1)
 | .ag w [a,b]=> @Bool.rec (λ_=>Bool) false (Nat.beq w 2&&(intB a&&intB b)) (Nat.beq s 0)
 |k=> @Bool.rec (λ_=>Bool) false (intB k) (Nat.beq s 2)
def AO(l:List (V×V))(k:V):Option V:= @List.rec (V×V) (λ_=>Option V) none (λp _ ih=> @Bool.rec (λ_=>Option V) ih (some p.2) (kyB p.1 k)) l
def Ai(l:List (V×V))(k v:V):List (V×V):=
 @List.rec (V×V) (λ_=>List (V×V)) [(k,v)] (λp r ih=> @Bool.rec (λ_=>List (V×V)) (p::ih) ((k,v)::r) (kyB p.1 k)) l
def lkV(c:Bool)(v:V)(b:Bool):V:= @Bool.rec (λ_=>V) v (.tu [v,.bb b]) c
def B8(P:Program)(t:TypeId)(d:Key):KR:=match mapS P t with|some (s,_)=> .nw (.mm d) [] (.mp s [])|none=> .bad
def vn(P:Program)(m:qM)(t:TypeId)(c:Bool)(x y:V):KR:=
 match x with
 | .mm k=>(match mget m k,mapS P t with
  |some (.mp s l),some (s',e)=> @Bool.rec (λ_=>KR) .bad (match AO l y with|some v=> .val (lkV c v true) [(k,.mp s l)]|none=> @Bool.rec (λ_=>KR) (.val (lkV c (zeroV P e) false) [(k,.mp s l)]) .bad (isU (zeroV P e))) (Nat.beq s s'&&kOkB s y)
  |_,_=> .bad)
 |_=> .bad
def DL(P:Program)(m:qM)(t:TypeId)(x y v:V):KR:=
 match x with
 | .mm k=>(match mget m k,mapS P t with
  |some (.mp s l),some (s',e)=> @Bool.rec (λ_=>KR) .bad (.wr (.tu []) [(k,.mp s l)] k (.mp s (Ai l y v))) (isC v&&(Nat.beq s s'&&kOkB s y))
  |_,_=> .bad)
 |_=> .bad
def AP(l:List (V×V))(k:V):Nat->Option (Nat×V):= @List.rec (V×V) (λ_=>Nat->Option (Nat×V)) (λ_=>none) (λp _ ih j=> @Bool.rec (λ_=>Option (Nat×V)) (ih (Nat.succ j)) (some (j,p.2)) (kyB p.1 k)) l
def M9(l:List (V×V))(v:V):Nat->Option (List (V×V)):= @List.rec (V×V) (λ_=>Nat->Option (List (V×V))) (λ_=>none) (λp r ih j=> @Nat.rec (λ_=>Option (List (V×V))) (some ((p.1,v)::r)) (λj _=>match ih j with|some r'=>some (p::r')|none=>none) j) l
def AA(P:Program)(m:qM)(t:TypeId)(x y:V):KR:=
 match x with
 | .mm k=>(match mget m k,mapS P t with
  |some (.mp s l),some (s',e)=> @Bool.rec (λ_=>KR) .bad (match AP l y 0 with
   |some (j,v)=> .wr (.tu [v,.nn .i64 j]) [(k,.mp s l)] k (.mp s l)
   |none=> @Bool.rec (λ_=>KR) (.wr (.tu [zeroV P e,.nn .i64 l.length]) [(k,.mp s l)] k (.mp s (l++[(y,zeroV P e)]))) .bad (isU (zeroV P e))) (Nat.beq s s'&&kOkB s y)
  |_,_=> .bad)
 |_=> .bad
def wv(m:qM)(x s v:V):KR:=
 match x,s with
 | .mm k,.nn .i64 j=>(match mget m k with
  |some (.mp s l)=> @Bool.rec (λ_=>KR) .bad (match M9 l v j with
   |some l'=> .wr (.tu []) [(k,.mp s l)] k (.mp s l')
   |none=> .bad) (isC v)
  |_=> .bad)
 |_,_=> .bad
end
noncomputable section
def Ca(P:Program)(m:qM)(t:TypeId)(x lo hi:V):KR:=
 match lo,hi with
 | .nn a l,.nn b r=>(match jx P t,x with
  |some es,.gs k q n w=> @Bool.rec (λ_=>KR) (vV P t (.gs k q n w) (some (.nn a l)) (some (.nn b r))) (match mget m k with
   |some (.gro e2 N tr)=> @Bool.rec (λ_=>KR) .bad (.val (.gs k (q+l) (r-l) w) [(k,.gro e2 N tr)]) (Nat.beq es w&&(Nat.beq w e2&&(Nat.blt 0 w&&(Nat.blt l r&&Nat.ble (q+r) N))))
   |_=> .bad) (Nat.blt n r)
  |_,x=>vV P t x (some (.nn a l)) (some (.nn b r)))
 |_,_=> .bad
def C9(P:Program)(t:TypeId)(x lo hi mx:V):KR:=
 match lo,hi,mx with
 | .nn _ l,.nn _ r,.nn _ z=>(match jx P t,x with
  |some es,.gs k q n w=> @Bool.rec (λ_=>KR) .bad (.val (.sl k (q+l) (r-l) (z-l) w) []) (Nat.beq es w&&(Nat.ble l r&&(Nat.ble r z&&(Nat.ble z n&&Nat.blt l z))))
  |some es,.sl k q n c w=> @Bool.rec (λ_=>KR) .bad (.val (.sl k (q+l) (r-l) (z-l) w) []) (Nat.beq es w&&(Nat.ble l r&&(Nat.ble r z&&(Nat.ble z c&&Nat.blt l z))))
  |_,_=> .bad)
 |_,_,_=> .bad
section
variable {D:List Int} {P:Program} {m:qM} {d:Key} {ty:TypeId}
theorem Jq{t e:TypeId}{ie:TypeInfo}(h:P.underlying t=some (.slice e))(he:P.info? e=some ie)(a:Option Addr)(len cap:Nat)(k1 k2 k3:IntKind){l r z:Nat}(hlr:l<=r)(hrz:r<=z)(hzc:z<=cap)(w:World):
  (Instr.sliceAt t (.slice a len cap) (some (.int k1 (l:Int))) (some (.int k2 (r:Int))) (some (.int k3 (z:Int)))).run P w= .ok (.slice (if z=l then a else a.map (·.add (l*ie.size))) (r-l) (z-l)) w:=by
 have hb: ∀(k:IntKind)(i:Int)(y:Nat)(c:BoundsCode)(j:Nat),i=(j:Int)->j<=y->(Instr.sliceBound (.int k i) y c).run P w= .ok j w:=by
  intro k i y c j hi hj;subst hi;have:(0:Int)<=j/\(j:Int)<=y:=by omega
  simp only[Instr.sliceBound,asIntOf,q64,q65,q63,this,and_self,if_true,q4Q]
 have hbounds:(Instr.sliceBounds true len cap (some (.int k1 (l:Int))) (some (.int k2 (r:Int))) (some (.int k3 (z:Int)))).run P w= .ok (l,r,z) w:=by
  simp[Instr.sliceBounds,hb k3 z cap .slice3Acap z rfl hzc,hb k2 r z .slice3B r rfl hrz,hb k1 l r .slice3C l rfl hlr]
 simp only[Instr.sliceAt,q64,qd h,q63,Instr.slice,hbounds,j7 he,q65]
theorem WJ{t:TypeId}{x lo hi:Operand}{v lv hv:V}:jj D P (.slice t x (some lo) (some hi) none) ty [x,lo,hi] [v,lv,hv] m d (Ca P m t v lv hv):=by
 unfold Ca;split
 .rename_i a l b r
  have base: ∀v:V,jj D P (.slice t x (some lo) (some hi) none) ty [x,lo,hi] [v,.nn a l,.nn b r] m d (vV P t v (some (.nn a l)) (some (.nn b r))):=λv=>
   Gv (lo:=some lo) (hi:=some hi) (lv:=some (.nn a l)) (hv:=some (.nn b r)) rfl rfl
  split
  .rename_i _ _ es k q n w hs
   cases hn:Nat.blt n r with
   |false=>exact base _
   |true=>
    show jj D P _ ty [x,lo,hi] [.gs k q n w,.nn a l,.nn b r] m d (match mget m k with
     |some (.gro e2 N tr)=> @Bool.rec (λ_=>KR) .bad (.val (.gs k (q+l) (r-l) w) [(k,.gro e2 N tr)]) (Nat.beq es w&&(Nat.beq w e2&&(Nat.blt 0 w&&(Nat.blt l r&&Nat.ble (q+r) N))))
     |_=> .bad)
    split
    .rename_i e2 N tr hb
     cases hc:(Nat.beq es w&&(Nat.beq w e2&&(Nat.blt 0 w&&(Nat.blt l r&&Nat.ble (q+r) N))))with
     |false=>exact kbad
     |true=>
      simp only[q4L,Nat.blt_eq]at hc;obtain⟨c1,c2,c3,c4,c5⟩:=hc;have c1:=q5w c1;have c2:=q5w c2;have c5:=q5y c5;obtain⟨e,ie,h1,h2,h3⟩:=jo hs;subst c2;intro hr hv hmm;refine⟨λy hy=>?_,λp hp=>(by simp[KR.ks]at hp;subst hp;exact hb),opk ?_,trivial,by simp[KR.res],trivial⟩
      .simp at hy;rcases hy with rfl|rfl|rfl<;>simp
      .show OpOk P (.slice t x (some lo) (some hi) none) ty [(x,qc D (.gs k q n w)),(lo,qc D (.nn a l)),(hi,qc D (.nn b r))] [(k.num,(KB.gro w N tr).blk D)] (qc D (.gs k (q+l) (r-l) w)) []
       refine qk λA W H β hins hkin _=>?_
       obtain⟨bb,cc,hβ,hle,hx⟩:=hins _ q5f;have hlo:A.eval lo= .int a (l:Int):=(hins (lo,qc D (.nn a l)) (by simp)).1;have hhi:A.eval hi= .int b (r:Int):=(hins (hi,qc D (.nn b r)) (by simp)).1;have hbk:=hkin _ q5f;have hok:=hmm k _ hb;have hfl:(flat D (Sq.toL .und tr 0 N)).length=N*w:=by rw[jK hok.2,Sq.toL_len]
       have hN:N<=cc:=by
        have hbk:(groB w (flat D (Sq.toL .und tr 0 N))).rep β W H k.num:=hbk;have hpos:0<N*w:=q5P (by omega) c3
        cases hf:flat D (Sq.toL .und tr 0 N)with
        |nil=>rw[hf]at hfl;simp at hfl;omega
        |cons a0 l0=>
         rw[hf]at hbk;rcases hbk with⟨h4,_⟩|⟨b',c',arr,T,h4,h5,h6,h7,h8⟩
         .rw[hβ]at h4;cases h4
         .rw[hβ]at h4;cases h4
          have h7:(a0::l0).length<=arr.size:=h7;rw[<-hf,hfl,h6]at h7;exact Nat.le_of_mul_le_mul_right h7 c3
       have hsl:=zf (P:=P) h1 h2 (some ⟨bb,q*w,none⟩) n (cc-q) (some (a,(l:Int))) (some (b,(r:Int))) (l:=l) (r:=r) rfl rfl (by omega) (by omega) W;refine⟨.slice (some ⟨bb,(q+l)*w,none⟩) (r-l) (cc-(q+l)),⟨bb,cc,hβ,by omega,rfl⟩,λ_ _ _ _=>?_⟩;simp only[q60]at hsl;simp only[execOp,hlo,hhi,hx,q60,q5Z,q64,hsl,q63,q65];rw[if_neg (by omega)];simp only[q60,ji,h3,c1];rw[q5s,show cc-q-l=cc-(q+l) by omega]
    .exact kbad
  .exact base _
 .exact kbad
theorem HA{t:TypeId}{x lo hi mx:Operand}{v lv hv zv:V}:jj D P (.slice t x (some lo) (some hi) (some mx)) ty [x,lo,hi,mx] [v,lv,hv,zv] m d (C9 P t v lv hv zv):=by
 unfold C9;split
 .rename_i a l b r c z
  split
  .rename_i _ _ es k q n w hs
   cases hc:(Nat.beq es w&&(Nat.ble l r&&(Nat.ble r z&&(Nat.ble z n&&Nat.blt l z))))with
   |false=>exact kbad
   |true=>
    simp only[q4L,Nat.blt_eq]at hc;obtain⟨c1,c2,c3,c4,c5⟩:=hc;have c1:=q5w c1;have c2:=q5y c2;have c3:=q5y c3;have c4:=q5y c4
    obtain⟨e,ie,h1,h2,h3⟩:=jo hs;refine kval λ_=>⟨λy hy=>?_,?_,trivial,by simp⟩
    .simp at hy;rcases hy with rfl|rfl|rfl|rfl<;>simp
    .show OpOk P (.slice t x (some lo) (some hi) (some mx)) ty [(x,qc D (.gs k q n w)),(lo,qc D (.nn a l)),(hi,qc D (.nn b r)),(mx,qc D (.nn c z))] [] (qc D (.sl k (q+l) (r-l) (z-l) w)) []
     refine qk λA W H β hins hkin _=>?_
     obtain⟨bb,cc,hβ,hle,hx⟩:=hins _ q5f;have hlo:A.eval lo= .int a (l:Int):=(hins (lo,qc D (.nn a l)) (by simp)).1;have hhi:A.eval hi= .int b (r:Int):=(hins (hi,qc D (.nn b r)) (by simp)).1;have hmx:A.eval mx= .int c (z:Int):=(hins (mx,qc D (.nn c z)) (by simp)).1;have hsl:=Jq (P:=P) h1 h2 (some ⟨bb,q*w,none⟩) n (cc-q) a b c (l:=l) (r:=r) (z:=z) c2 c3 (by omega) W;refine⟨.slice (some ⟨bb,(q+l)*w,none⟩) (r-l) (z-l),⟨bb,cc,hβ,rfl⟩,λ_ _ _ _=>?_⟩;simp only[execOp,hlo,hhi,hmx,hx,q60,q5Z,q64,hsl,q63,q65];rw[if_neg (by omega)];simp only[q60,ji,h3,c1];rw[q5s]
  .rename_i _ _ es k q n c0 w hs
   cases hc:(Nat.beq es w&&(Nat.ble l r&&(Nat.ble r z&&(Nat.ble z c0&&Nat.blt l z))))with
   |false=>exact kbad
   |true=>
    simp only[q4L,Nat.blt_eq]at hc;obtain⟨c1,c2,c3,c4,c5⟩:=hc;have c1:=q5w c1;have c2:=q5y c2;have c3:=q5y c3;have c4:=q5y c4
    obtain⟨e,ie,h1,h2,h3⟩:=jo hs;refine kval λ_=>⟨λy hy=>?_,?_,trivial,by simp⟩
    .simp at hy;rcases hy with rfl|rfl|rfl|rfl<;>simp
    .show OpOk P (.slice t x (some lo) (some hi) (some mx)) ty [(x,qc D (.sl k q n c0 w)),(lo,qc D (.nn a l)),(hi,qc D (.nn b r)),(mx,qc D (.nn c z))] [] (qc D (.sl k (q+l) (r-l) (z-l) w)) []
     refine qk λA W H β hins hkin _=>?_
     obtain⟨bb,cc,hβ,hx⟩:=hins _ q5f;have hlo:A.eval lo= .int a (l:Int):=(hins (lo,qc D (.nn a l)) (by simp)).1;have hhi:A.eval hi= .int b (r:Int):=(hins (hi,qc D (.nn b r)) (by simp)).1;have hmx:A.eval mx= .int c (z:Int):=(hins (mx,qc D (.nn c z)) (by simp)).1;have hsl:=Jq (P:=P) h1 h2 (some ⟨bb,q*w,none⟩) n c0 a b c (l:=l) (r:=r) (z:=z) c2 c3 c4 W;refine⟨.slice (some ⟨bb,(q+l)*w,none⟩) (r-l) (z-l),⟨bb,cc,hβ,rfl⟩,λ_ _ _ _=>?_⟩;simp only[execOp,hlo,hhi,hmx,hx,q60,q5Z,q64,hsl,q63,q65];rw[if_neg (by omega)];simp only[q60,ji,h3,c1];rw[q5s]
  .exact kbad
 .exact kbad
end
end
noncomputable section
structure S where
 m:qM
 nx:Key
 dn:Nat
 sc:List (Nat×Nat)
inductive RO where
 |ok (v:V) (s:S)
 |no (t:List Nat)
 |need (n:Nat)
inductive X where
 |nrm
 |ext (id:Nat)
 |ret
inductive R where
 |ok (x:X) (e:Env16) (s:S)
 |no (t:List Nat)
 |need (n:Nat)
def putK(m:qM)(nx:Key)(dn:Nat)(sc:List (Nat×Nat))(v:V)(b:KB):RO:=
 match nx.succ with
 |some k'=> .ok v ⟨mset m nx (some b),k',dn,sc⟩
 |none=> .no []
def ap(s:S)(r:KR):RO:=
 @KR.rec (λ_=>RO) (.no []) (λv _=> .ok v s) (λv _ k b=> @S.rec (λ_=>RO) (λm nx dn sc=> .ok v ⟨mset m k (some b),nx,dn,sc⟩) s)
  (λv _ b=> @S.rec (λ_=>RO) (λm nx dn sc=>putK m nx dn sc v b) s) (λv _ k b=> @S.rec (λ_=>RO) (λm nx dn sc=>putK (mset m k none) nx dn sc v b) s) r
def zo(P:Program)(b:Builtin)(ts:List TypeId)(vs:List V)(m:qM)(d:Key):KR:=
 match b with
 | .len=>(match ts,vs with|[t],[x]=>kLen P t x|_,_=> .bad)
 | .append=>(match ts,vs with|[t,u],[x,y]=>DK P t u m x y d|_,_=> .bad)
 | .copy=>(match ts,vs with|[t,_],[x,y]=>RH P t m x y|_,_=> .bad)
 | .clear=>(match ts,vs with|[t],[x]=>Np P t m x|_,_=> .bad)
 | .cap=>(match ts,vs with|[t],[x]=>kCap P t x|_,_=> .bad)
 | .max=>(match vs with|[x,y]=>AB true x y|_=> .bad)
 | .min=>(match vs with|[x,y]=>AB false x y|_=> .bad)
 |_=> .bad
def evs(e:Env16)(l:List Operand):List V:=l.map (qa e)
def kop(P:Program)(e:Env16)(m:qM)(d:Key)(o:Op):KR:=
 match o with
 | .move x=>Bo (qa e x)
 | .assign x=>Bo (qa e x)
 | .load t x=>jY P m t (qa e x)
 | .binOp op t x y _=>kBin P op t (qa e x) (qa e y)
 | .fieldAddr s x f=>jW P s f (qa e x)
 | .store t x y=>A6 P m t (qa e x) (qa e y)
 | .indexAddr t x y=>jX P t (qa e x) (qa e y)
 | .alloc t=>Cu P t d
 | .box _ x=>kBox d (qa e x)
 | .extract x i=>As (qa e x) i
 | .build t ps=>Cv P t (ps.toList.map (·.1)) (evs e (ps.toList.map (·.2)))
 | .pick c x y=>D2 (qa e c) (qa e x) (qa e y)
 | .buildSlice t n ps=>zb P t n (ps.toList.map (·.1)) (evs e (ps.toList.map (·.2))) d
 | .convert s t x=>wo P m s t (qa e x)
 | .makeMap t none=>B8 P t d
 | .lookup t x y c=>vn P m t c (qa e x) (qa e y)
 | .mapUpdate t x y v=>DL P m t (qa e x) (qa e y) (qa e v)
 | .mapEntry t x y=>AA P m t (qa e x) (qa e y)
 | .entryStore _ x y v=>wv m (qa e x) (qa e y) (qa e v)
 | .unOp op _ x=>kUn P op (qa e x)
 | .slice t x lo hi none=>vV P t (qa e x) (lo.map (qa e)) (hi.map (qa e))
 | .nilCheck x=>wJ (qa e x)
 | .makeSlice t x y=>zE P t (qa e x) (qa e y) d
 | .makeFunc fn fs cs=>EC fn (evs e fs.toList) (evs e cs.toList)
 | .field s x f=>Cw P s f (qa e x)
 | .index t x y=>Cy P t (qa e x) (qa e y)
 | .call {callee:= .builtin b,args:=xs,argTypes:=ts}=>zo P b ts.toList (evs e xs.toList) m d
 |_=> .bad
def zl(f:V):Option (FuncId×List (Key×Nat)):=
 match f with
 | .uu (.func (.func g) a b)=> @Bool.rec (λ_=>Option (FuncId×List (Key×Nat))) none (some (g,[])) (Nat.beq a.size 0&&Nat.beq b.size 0)
 | .cl g ps=>some (g,ps)
 | .bf g _ _=>some (g,[])
 |_=>none
def AS(f:V):List V:=match f with| .bf _ w l=>[.ag w l]|_=>[]
def cls(P:Program)(op:Op):Nat:=
 match op with
 | .move _=>0| .assign _=>0| .binOp .. =>0| .unOp .. =>0| .fieldAddr .. =>0| .indexAddr .. =>0| .extract .. =>0| .build .. =>0| .pick .. =>0| .convert _ t _=>(match intK P t with|some _=>0|none=>3)
 | .slice .. =>0| .nilCheck _=>0| .makeFunc .. =>0| .field .. =>0| .index .. =>0
 | .call {callee:= .builtin b,args:=_,argTypes:=_}=>(match b with| .len=>0| .cap=>0| .max=>0| .min=>0|_=>3)
 | .alloc _=>1| .box .. =>1| .buildSlice .. =>1| .makeSlice .. =>1| .makeMap _ none=>1
 | .load .. =>2
 | .lookup .. =>2
 |_=>3
def rdO(P:Program)(e:Env16)(m:qM)(op:Op):KR:=
 match op with
 | .load t x=>jY P m t (qa e x)
 | .lookup t x y c=>vn P m t c (qa e x) (qa e y)
 |_=> .bad
def qA(all:List Oper)(i:Nat):Oper:=all.getD i default
def ordB(M:List Nat)(u i:Nat):Bool:=bif Nat.blt u i then Nat.testBit (M.getD i 0) u else Nat.testBit (M.getD u 0) i
def dstB(o:Oper)(t:Nat):Bool:=match o.dst with|some d=>Nat.beq d t|none=>false
def slB(all:List Oper)(o:Oper):List Nat:=
 (o.op.operands.toList.filterMap λx=>match x with| .tmp t=>some t|_=>none)++(match o.guard with|some (j,_)=>(match(qA all j).dst with|some d=>[d]|none=>[])|none=>[])
def Ys(P:Program)(all:List Oper)(M:List Nat)(u i:Nat):Bool:=
 ordB M u i||((slB all (qA all i)).all (λt=>!dstB (qA all u) t)&&(slB all (qA all u)).all (λt=>!dstB (qA all i) t)&&(match(qA all u).dst with|some t=>!dstB (qA all i) t|none=>true)&&!(Nat.beq (cls P (qA all u).op) 3&&Nat.beq (cls P (qA all i).op) 3))
def EZ(P:Program)(all:List Oper)(M:List Nat):Bool:=okM all M&&(List.range all.length).all λi=>(List.range i).all λu=>Ys P all M u i
def unz(P:Program)(all:List Oper)(M:List Nat)(i:Nat):List Nat:=bif Nat.ble (cls P (qA all i).op) 1 then[]else(List.range i).filter λu=>Nat.beq (cls P (qA all u).op) 1&&!ordB M u i
def rmK(m:qM)(zs:List Key):qM:=zs.foldl (λm k=>mset m k none) m
def reK(m0 m:qM)(zs:List Key):qM:=zs.foldl (λm k=> @Option.rec KB (λ_=>qM) m (λb=>mset m k (some b)) (mget m0 k)) m
def ldP(P:Program)(all:List Oper)(M:List Nat):List (Nat×Nat):=
 (List.range all.length).flatMap λi=>bif Nat.beq (cls P (qA all i).op) 2 then((List.range all.length).filter λu=>Nat.beq (cls P (qA all u).op) 3&&!ordB M u i).map (λu=>(i,u))else[]
section
variable (rc:FuncId->List V->S->RO) (P:Program)
def AI(l:List V):Bool:=l.all λv=>!isU v
def kcall(s:S)(c:Option (FuncId×List (Key×Nat)))(pre vs:List V):RO:=
 match c with
 |some (g,ps)=> @Bool.rec (λ_=>RO) (.no [3]) (rc g (pre++(vs++ps.map λp=> .pp p.1 p.2)) s) (AI vs)
 |none=> .no [4]
def zG(e:Env16)(s:S)(o:Op):RO:=
 match o with
 | .call {callee:= .value f,args:=xs,argTypes:=_}=>kcall rc s (zl (qa e f)) (AS (qa e f)) (evs e xs.toList)
 |o=>ap s (kop P e s.m s.nx o)
def kopS(P:Program)(e:Env16)(m:qM)(o:Op):Option KR:=
 match o with
 | .slice t x (some l) (some h) none=>some (Ca P m t (qa e x) (qa e l) (qa e h))
 | .slice t x (some l) (some h) (some z)=>some (C9 P t (qa e x) (qa e l) (qa e h) (qa e z))
 |_=>none
def Ac(e:Env16)(s:S)(o:Op):RO:=match kopS P e s.m o with|some r=>ap s r|none=>zG rc P e s o
def jd(e:Env16)(d:Option Tmp)(v:V):Env16:= @Option.rec Tmp (λ_=>Env16) e (λt=>eset e t v) d
def jg(all:List Oper)(e:Env16)(g:Option (Nat×Bool)):Option Bool:=
 match g with
 |none=>some true
 |some (j,w)=>(match(all[j]?).bind (·.dst)with
  |some t=>(match slot e t with| .bb b=>some (@Bool.rec (λ_=>Bool) (!b) b w)| .tu []=>some false|_=>none)
  |none=>some false)
def tramp{α:Type}(x:α):α:=x
def Ad (all : List Oper) (l : List Oper) : Env16 -> S -> R :=
 @List.rec Oper (λ_ => Env16 -> S -> R) (λe s => .ok .nrm e s)
  (λo r ih e s => @Option.rec Bool (λ_ => R) (.no [6]) (λg => @Bool.rec (λ_ => R) (ih (jd e o.dst (.tu [])) s)
   (@RO.rec (λ_ => R) (λv s' => ih (jd e o.dst v) s') (λt => .no (r.length :: t)) (λn => .need n) (Ac rc P e s o.op)) g) (jg all e o.guard)) l
def zOf(P:Program)(ss:Nat->S)(all:List Oper)(M:List Nat)(i:Nat):List Key:=(unz P all M i).map λu=>(ss u).nx
def Di (all : List Oper) (z : List Key) (o : Oper) (e : Env16) (s : S) (e1 : Env16) (s1 : S) : Prop :=
 (jg all e o.guard = some false /\ e1 = jd e o.dst (.tu []) /\ s1 = s) \/
  (jg all e o.guard = some true /\ ∃ v s2, zG rc P e ⟨rmK s.m z, s.nx, s.dn, s.sc⟩ o.op = .ok v s2 /\ e1 = jd e o.dst v /\ s1 = ⟨reK s.m s2.m z, s2.nx, s2.dn, s2.sc⟩)
structure DrawOk (all:List Oper) (e:Env16) (s:S) (e':Env16) (s':S) (es:Nat->Env16) (ss:Nat->S):Prop where
 e0:es 0=e
 s0:ss 0=s
 en:es all.length=e'
 sn:ss all.length=s'
 stat:EZ P all (masks 0 all [])=true
 step: ∀i,i<all.length->Di rc P all (zOf P ss all (masks 0 all []) i) (qA all i) (es i) (ss i) (es (i+1)) (ss (i+1))
 load: ∀i u,(i,u)∈ldP P all (masks 0 all [])->jg all (es i) (qA all i).guard=some true-> ∃w,w≠ .und/\
  (rdO P (es i) (rmK (ss i).m (zOf P ss all (masks 0 all []) i)) (qA all i).op).res=w/\(rdO P (es i) (ss u).m (qA all i).op).res=w/\(rdO P (es i) (ss (u+1)).m (qA all i).op).res=w
open Classical in
def runD(all:List Oper)(e:Env16)(s:S):R:=
 if h: ∃p:Env16×S,∃es ss,DrawOk rc P all e s p.1 p.2 es ss then .ok .nrm (Classical.choose h).1 (Classical.choose h).2 else .no [77]
def Mi(ih:Env16->S->R)(r:R):R:=
 @R.rec (λ_=>R) (λx e s=>match x with| .nrm=>tramp (ih e s)|x=> .ok x e s) (λt=> .no t) (λn=> .need n) r
def BU(c:Env16->S->R)(n:Nat):Env16->S->R:=
 @Nat.rec (λ_=>Env16->S->R) (λ_ _=> .no [7]) (λ_ ih e s=>Mi ih (c e s)) n
def BZ(r:R)(k:Env16->S->R):R:=
 @R.rec (λ_=>R) (λx e s=>match x with| .nrm=>tramp (k e s)|x=> .ok x e s) (λt=> .no t) (λn=> .need n) r
def Ik(id:Nat)(r:R):R:=
 @R.rec (λ_=>R) (λx e s=>match x with| .ext i=> @Bool.rec (λ_=>R) (.ok (.ext i) e s) (.ok .nrm e s) (Nat.beq i id)|x=> .ok x e s) (λt=> .no t) (λn=> .need n) r
def LW(v:V)(a b:Env16->S->R)(e:Env16)(s:S):R:=
 match v with
 | .bb t=> @Bool.rec (λ_=>R) (b e s) (a e s) t
 |_=> .no [8]
structure DP where
 st:Env16->S->R
 fr:Nat->Option (Env16->S->R)
def hopN(fr:Nat->Option (Env16->S->R))(n:Nat):R->R:=
 @Nat.rec (λ_=>R->R) (λ_=> .no [7]) (λ_ ih r=> @R.rec (λ_=>R) (λx e s=>match x with
  | .ext i=> @Bool.rec (λ_=>R) (.ok (.ext i) e s) (match fr (Nat.sub i 1048576)with|some f=>ih (f e s)|none=> .ok (.ext i) e s) (Nat.ble 1048576 i)
  |x=> .ok x e s) (λt=> .no t) (λn=> .need n) r) n
def jV(c:Code):DP:=
 @Code.rec (λ_=>DP)
  ⟨λe s=> .ok .nrm e s,λ_=>none⟩
  (λ_ ops dr=>⟨λe s=> @Bool.rec (λ_=>R) (Ad rc P ops.toList ops.toList e s) (runD rc P ops.toList e s) dr,λ_=>none⟩)
  (λ_ _ ha hb=>⟨λe s=>BZ (ha.st e s) hb.st,λl=>match ha.fr l with|some f=>some (λe s=>BZ (f e s) hb.st)|none=>hb.fr l⟩)
  (λc _ _ ha hb=>⟨λe s=>LW (qa e c) ha.st hb.st e s,λ_=>none⟩)
  (λid _ h=>⟨λe s=>Ik id (h.st e s),λ_=>none⟩)
  (λ_ h=>⟨λe s=>BU h.st 1000000 e s,λ_=>none⟩)
  (λ_ _ _ _ _ _=>⟨λ_ _=> .no [9],λ_=>none⟩)
  (λid=>⟨λe s=> .ok (.ext id) e s,λ_=>none⟩)
  (λ_ h=>⟨λe s=>hopN h.fr 1000001 (h.st e s),λ_=>none⟩)
  (λl'=>⟨λe s=> .ok .nrm e s,λl=>bif Nat.beq l' l then some (λe s=> .ok .nrm e s)else none⟩)
  (λl=>⟨λe s=> .ok (.ext (1048576+l)) e s,λ_=>none⟩)
  ⟨λe s=> .ok .ret e s,λ_=>none⟩
  (λ_=>⟨λ_ _=> .no [12],λ_=>none⟩) c
def den(c:Code):Env16->S->R:=(jV rc P c).st
end
def zn(n:Nat)(o:Oper):Bool:=match o.dst with|none=>true|some d=>Nat.blt d n&&Nat.blt d 512
def qV(n:Nat):Code->Bool
 | .region _ ops _=>ops.toList.all (zn n)
 | .seq a b=>qV n a&&qV n b
 | .cond _ a b=>qV n a&&qV n b
 | .block id a=>Nat.blt id 1048576&&qV n a
 | .loop a=>qV n a
 | .exit id=>Nat.blt id 1048576
 | .scope a=>qV n a
 |_=>true
def vo(P:Program)(e:Env16)(m:qM)(r:ResultVar):V:=
 match r with
 | .tmp t=>slot e t
 | .cell a t=>(jY P m t (slot e a)).res
def retL(s:S)(l:List V):RO:=
 match l with
 |[v]=> .ok v s
 |l=> .ok (.tu l) s
def retA(s:S)(l:List V):RO:= @Bool.rec (λ_=>RO) (.no [18]) (retL s l) (l.all isC)
def e0:Env16:=⟨N16.all (N16.all .und),N16.all (N16.all .und)⟩
def nthV(l:List V)(i:Nat):V:=l.getD i .und
def jz (l : List V) : Env16 :=
  ⟨⟨⟨nthV l 0, nthV l 1, nthV l 2, nthV l 3, nthV l 4, nthV l 5, nthV l 6, nthV l 7, nthV l 8, nthV l 9, nthV l 10, nthV l 11, nthV l 12, nthV l 13, nthV l 14, nthV l 15⟩,
    N16.all .und, N16.all .und, N16.all .und, N16.all .und, N16.all .und, N16.all .und, N16.all .und, N16.all .und, N16.all .und, N16.all .und, N16.all .und, N16.all .und, N16.all .und, N16.all .und, N16.all .und⟩, N16.all (N16.all .und)⟩
def retR(P:Program)(l:List ResultVar)(r:R):RO:=
 @R.rec (λ_=>RO) (λx e s=>match x with| .ext _=> .no [13]|_=>retA s (l.map (vo P e s.m))) (λt=> .no t) (λn=> .need n) r
abbrev vH:=FuncId->Option (List V->S->RO)
def BF(fn:Func):Bool:=fn.name != "runtime.NumGoroutine"
def addT(f:Nat)(r:RO):RO:= @RO.rec (λ_=>RO) (λv s=> .ok v s) (λt=> .no (f::t)) (λn=> .need n) r
def Eh (P : Program) (pr : vH) (n : Nat) : FuncId -> List V -> S -> RO :=
 @Nat.rec (λ_ => FuncId -> List V -> S -> RO) (λ_ _ _ => .no [14])
  (λ_ ih f vs s => match pr f with
   | some g => addT f (g vs s)
   | none => (match P.funcs[f]? with
    | some fn => (match fn.body with
     | some c => @Bool.rec (λ_ => RO) (.no [17]) (addT f (retR P fn.results.toList (den ih P c (jz vs) s))) (qV fn.ntmps c && Nat.ble vs.length 16 && Nat.ble vs.length fn.ntmps && BF fn)
     | none => .no [15])
    | none => .no [16])) n
end
noncomputable section
def qNN:V->(IntKind->Nat->RO)->(V->RO)->RO:= @V.rec (λ_=>(IntKind->Nat->RO)->(V->RO)->RO) (λ_=>Unit)
 (λ_ z=>z .und)
 (λa0 a1 f _=>f a0 a1)
 (λa0 a1 _ z=>z (.zz a0 a1))
 (λa0 _ z=>z (.bb a0))
 (λa0 _ z=>z (.st a0))
 (λa0 a1 a2 _ z=>z (.qq a0 a1 a2))
 (λa0 _ z=>z (.mg a0))
 (λa0 _ z=>z (.uu a0))
 (λa0 a1 _ z=>z (.pp a0 a1))
 (λa0 a1 a2 a3 _ z=>z (.ee a0 a1 a2 a3))
 (λa0 a1 a2 a3 a4 _ z=>z (.sl a0 a1 a2 a3 a4))
 (λa0 a1 a2 a3 _ z=>z (.gs a0 a1 a2 a3))
 (λa0 _ z=>z (.mm a0))
 (λa0 a1 _ z=>z (.cl a0 a1))
 (λa0 a1 a2 _ _ z=>z (.bf a0 a1 a2))
 (λ_ z=>z .dl)
 (λa0 a1 _ z=>z (.lp a0 a1))
 (λ_ z=>z .em)
 (λa0 a1 _ _ z=>z (.ag a0 a1))
 (λa0 _ _ z=>z (.tu a0))
 () (λ_ _ _ _=>())
def qN:V->(Nat->RO)->RO:= @V.rec (λ_=>(Nat->RO)->RO) (λ_=>Unit)
 (λ_=> .no [110])
 (λ_ a1 f=>f a1)
 (λ_ _ _=> .no [110])
 (λ_ _=> .no [110])
 (λ_ _=> .no [110])
 (λ_ _ _ _=> .no [110])
 (λ_ _=> .no [110])
 (λ_ _=> .no [110])
 (λ_ _ _=> .no [110])
 (λ_ _ _ _ _=> .no [110])
 (λ_ _ _ _ _ _=> .no [110])
 (λ_ _ _ _ _=> .no [110])
 (λ_ _=> .no [110])
 (λ_ _ _=> .no [110])
 (λ_ _ _ _ _=> .no [110])
 (λ_=> .no [110])
 (λ_ _ _=> .no [110])
 (λ_=> .no [110])
 (λ_ _ _ _=> .no [110])
 (λ_ _ _=> .no [110])
 () (λ_ _ _ _=>())
def qP:V->(Key->Nat->RO)->(Key->Nat->Nat->Nat->RO)->RO:= @V.rec (λ_=>(Key->Nat->RO)->(Key->Nat->Nat->Nat->RO)->RO) (λ_=>Unit)
 (λ_ _=> .no [111])
 (λ_ _ _ _=> .no [111])
 (λ_ _ _ _=> .no [111])
 (λ_ _ _=> .no [111])
 (λ_ _ _=> .no [111])
 (λ_ _ _ _ _=> .no [111])
 (λ_ _ _=> .no [111])
 (λ_ _ _=> .no [111])
 (λa0 a1 f _=>f a0 a1)
 (λa0 a1 a2 a3 _ g=>g a0 a1 a2 a3)
 (λ_ _ _ _ _ _ _=> .no [111])
 (λ_ _ _ _ _ _=> .no [111])
 (λ_ _ _=> .no [111])
 (λ_ _ _ _=> .no [111])
 (λ_ _ _ _ _ _=> .no [111])
 (λ_ _=> .no [111])
 (λ_ _ _ _=> .no [111])
 (λ_ _=> .no [111])
 (λ_ _ _ _ _=> .no [111])
 (λ_ _ _ _=> .no [111])
 () (λ_ _ _ _=>())
def qS:V->(Key->Nat->Nat->Nat->Nat->RO)->(Key->Nat->Nat->Nat->RO)->(V->RO)->RO:= @V.rec (λ_=>(Key->Nat->Nat->Nat->Nat->RO)->(Key->Nat->Nat->Nat->RO)->(V->RO)->RO) (λ_=>Unit)
 (λ_ _ z=>z .und)
 (λa0 a1 _ _ z=>z (.nn a0 a1))
 (λa0 a1 _ _ z=>z (.zz a0 a1))
 (λa0 _ _ z=>z (.bb a0))
 (λa0 _ _ z=>z (.st a0))
 (λa0 a1 a2 _ _ z=>z (.qq a0 a1 a2))
 (λa0 _ _ z=>z (.mg a0))
 (λa0 _ _ z=>z (.uu a0))
 (λa0 a1 _ _ z=>z (.pp a0 a1))
 (λa0 a1 a2 a3 _ _ z=>z (.ee a0 a1 a2 a3))
 (λa0 a1 a2 a3 a4 f _ _=>f a0 a1 a2 a3 a4)
 (λa0 a1 a2 a3 _ g _=>g a0 a1 a2 a3)
 (λa0 _ _ z=>z (.mm a0))
 (λa0 a1 _ _ z=>z (.cl a0 a1))
 (λa0 a1 a2 _ _ _ z=>z (.bf a0 a1 a2))
 (λ_ _ z=>z .dl)
 (λa0 a1 _ _ z=>z (.lp a0 a1))
 (λ_ _ z=>z .em)
 (λa0 a1 _ _ _ z=>z (.ag a0 a1))
 (λa0 _ _ _ z=>z (.tu a0))
 () (λ_ _ _ _=>())
def qB:V->(Bool->RO)->RO:= @V.rec (λ_=>(Bool->RO)->RO) (λ_=>Unit)
 (λ_=> .no [112])
 (λ_ _ _=> .no [112])
 (λ_ _ _=> .no [112])
 (λa0 f=>f a0)
 (λ_ _=> .no [112])
 (λ_ _ _ _=> .no [112])
 (λ_ _=> .no [112])
 (λ_ _=> .no [112])
 (λ_ _ _=> .no [112])
 (λ_ _ _ _ _=> .no [112])
 (λ_ _ _ _ _ _=> .no [112])
 (λ_ _ _ _ _=> .no [112])
 (λ_ _=> .no [112])
 (λ_ _ _=> .no [112])
 (λ_ _ _ _ _=> .no [112])
 (λ_=> .no [112])
 (λ_ _ _=> .no [112])
 (λ_=> .no [112])
 (λ_ _ _ _=> .no [112])
 (λ_ _ _=> .no [112])
 () (λ_ _ _ _=>())
def qT:V->(List V->RO)->RO:= @V.rec (λ_=>(List V->RO)->RO) (λ_=>Unit)
 (λ_=> .no [113])
 (λ_ _ _=> .no [113])
 (λ_ _ _=> .no [113])
 (λ_ _=> .no [113])
 (λ_ _=> .no [113])
 (λ_ _ _ _=> .no [113])
 (λ_ _=> .no [113])
 (λ_ _=> .no [113])
 (λ_ _ _=> .no [113])
 (λ_ _ _ _ _=> .no [113])
 (λ_ _ _ _ _ _=> .no [113])
 (λ_ _ _ _ _=> .no [113])
 (λ_ _=> .no [113])
 (λ_ _ _=> .no [113])
 (λ_ _ _ _ _=> .no [113])
 (λ_=> .no [113])
 (λ_ _ _=> .no [113])
 (λ_=> .no [113])
 (λ_ _ _ _=> .no [113])
 (λa0 _ f=>f a0)
 () (λ_ _ _ _=>())
def qK:V->(V->RO)->RO:= @V.rec (λ_=>(V->RO)->RO) (λ_=>Unit)
 (λ_=> .no [114])
 (λa0 a1 f=>f (.nn a0 a1))
 (λa0 a1 f=>f (.zz a0 a1))
 (λa0 f=>f (.bb a0))
 (λa0 f=>f (.st a0))
 (λa0 a1 a2 f=>f (.qq a0 a1 a2))
 (λa0 f=>f (.mg a0))
 (λa0 f=>f (.uu a0))
 (λa0 a1 f=>f (.pp a0 a1))
 (λa0 a1 a2 a3 f=>f (.ee a0 a1 a2 a3))
 (λa0 a1 a2 a3 a4 f=>f (.sl a0 a1 a2 a3 a4))
 (λa0 a1 a2 a3 f=>f (.gs a0 a1 a2 a3))
 (λa0 f=>f (.mm a0))
 (λa0 a1 f=>f (.cl a0 a1))
 (λa0 a1 a2 _ f=>f (.bf a0 a1 a2))
 (λf=>f .dl)
 (λa0 a1 f=>f (.lp a0 a1))
 (λf=>f .em)
 (λa0 a1 _ f=>f (.ag a0 a1))
 (λ_ _ _=> .no [114])
 () (λ_ _ _ _=>())
def qG:V->(Bool->RO)->RO->RO:= @V.rec (λ_=>(Bool->RO)->RO->RO) (λ_=>Unit)
 (λ_ _=> .no [115])
 (λ_ _ _ _=> .no [115])
 (λ_ _ _ _=> .no [115])
 (λa0 f _=>f a0)
 (λ_ _ _=> .no [115])
 (λ_ _ _ _ _=> .no [115])
 (λ_ _ _=> .no [115])
 (λ_ _ _=> .no [115])
 (λ_ _ _ _=> .no [115])
 (λ_ _ _ _ _ _=> .no [115])
 (λ_ _ _ _ _ _ _=> .no [115])
 (λ_ _ _ _ _ _=> .no [115])
 (λ_ _ _=> .no [115])
 (λ_ _ _ _=> .no [115])
 (λ_ _ _ _ _ _=> .no [115])
 (λ_ _=> .no [115])
 (λ_ _ _ _=> .no [115])
 (λ_ _=> .no [115])
 (λ_ _ _ _ _=> .no [115])
 (λa0 _ _ z=> @List.rec V (λ_=>RO) z (λ_ _ _=> .no [93]) a0)
 () (λ_ _ _ _=>())
def qD:V->RO->RO:= @V.rec (λ_=>RO->RO) (λ_=>Unit)
 (λ_=> .no [116])
 (λ_ _ z=>z)
 (λ_ _ z=>z)
 (λ_ z=>z)
 (λ_ z=>z)
 (λ_ _ _ z=>z)
 (λ_ z=>z)
 (λ_ z=>z)
 (λ_ _ z=>z)
 (λ_ _ _ _ z=>z)
 (λ_ _ _ _ _ z=>z)
 (λ_ _ _ _ z=>z)
 (λ_ z=>z)
 (λ_ _ z=>z)
 (λ_ _ _ _ z=>z)
 (λz=>z)
 (λ_ _ z=>z)
 (λz=>z)
 (λ_ _ _ z=>z)
 (λ_ _ z=>z)
 () (λ_ _ _ _=>())
def qF:V->(V->RO)->RO:= @V.rec (λ_=>(V->RO)->RO) (λ_=>Unit)
 (λ_=> .no [117])
 (λa0 a1 f=>f (.nn a0 a1))
 (λa0 a1 f=>f (.zz a0 a1))
 (λa0 f=>f (.bb a0))
 (λa0 f=>f (.st a0))
 (λa0 a1 a2 f=>f (.qq a0 a1 a2))
 (λa0 f=>f (.mg a0))
 (λa0 f=>f (.uu a0))
 (λa0 a1 f=>f (.pp a0 a1))
 (λa0 a1 a2 a3 f=>f (.ee a0 a1 a2 a3))
 (λa0 a1 a2 a3 a4 f=>f (.sl a0 a1 a2 a3 a4))
 (λa0 a1 a2 a3 f=>f (.gs a0 a1 a2 a3))
 (λa0 f=>f (.mm a0))
 (λa0 a1 f=>f (.cl a0 a1))
 (λa0 a1 a2 _ f=>f (.bf a0 a1 a2))
 (λf=>f .dl)
 (λa0 a1 f=>f (.lp a0 a1))
 (λf=>f .em)
 (λa0 a1 _ f=>f (.ag a0 a1))
 (λa0 _ f=>f (.tu a0))
 () (λ_ _ _ _=>())
def qC:V->RO->RO:= @V.rec (λ_=>RO->RO) (λ_=>Unit)
 (λ_=> .no [118])
 (λ_ _ z=>z)
 (λ_ _ z=>z)
 (λ_ z=>z)
 (λ_ z=>z)
 (λ_ _ _ z=>z)
 (λ_ z=>z)
 (λ_ z=>z)
 (λ_ _ z=>z)
 (λ_ _ _ _ z=>z)
 (λ_ _ _ _ _ z=>z)
 (λ_ _ _ _ z=>z)
 (λ_ z=>z)
 (λ_ _ z=>z)
 (λ_ _ _ _ z=>z)
 (λz=>z)
 (λ_ _ z=>z)
 (λz=>z)
 (λ_ _ _ z=>z)
 (λ_ _ _=> .no [118])
 () (λ_ _ _ _=>())
def qZ:V->Nat->RO->RO:= @V.rec (λ_=>Nat->RO->RO) (λ_=>Unit)
 (λ_ _=> .no [91])
 (λ_ _ s z=> @Bool.rec (λ_=>RO) (.no [92]) z (Nat.beq 1 s))
 (λ_ _ s z=> @Bool.rec (λ_=>RO) (.no [92]) z (Nat.beq 1 s))
 (λ_ s z=> @Bool.rec (λ_=>RO) (.no [92]) z (Nat.beq 1 s))
 (λ_ s z=> @Bool.rec (λ_=>RO) (.no [92]) z (Nat.beq 1 s))
 (λ_ _ _ s z=> @Bool.rec (λ_=>RO) (.no [92]) z (Nat.beq 3 s))
 (λ_ s z=> @Bool.rec (λ_=>RO) (.no [92]) z (Nat.beq 1 s))
 (λ_ s z=> @Bool.rec (λ_=>RO) (.no [92]) z (Nat.beq 1 s))
 (λ_ _ s z=> @Bool.rec (λ_=>RO) (.no [92]) z (Nat.beq 1 s))
 (λ_ _ _ _ s z=> @Bool.rec (λ_=>RO) (.no [92]) z (Nat.beq 1 s))
 (λ_ _ _ _ _ s z=> @Bool.rec (λ_=>RO) (.no [92]) z (Nat.beq 1 s))
 (λ_ _ _ _ s z=> @Bool.rec (λ_=>RO) (.no [92]) z (Nat.beq 1 s))
 (λ_ s z=> @Bool.rec (λ_=>RO) (.no [92]) z (Nat.beq 1 s))
 (λ_ _ s z=> @Bool.rec (λ_=>RO) (.no [92]) z (Nat.beq 1 s))
 (λ_ _ _ _ s z=> @Bool.rec (λ_=>RO) (.no [92]) z (Nat.beq 1 s))
 (λs z=> @Bool.rec (λ_=>RO) (.no [92]) z (Nat.beq 1 s))
 (λ_ _ s z=> @Bool.rec (λ_=>RO) (.no [92]) z (Nat.beq 1 s))
 (λs z=> @Bool.rec (λ_=>RO) (.no [92]) z (Nat.beq 1 s))
 (λa0 _ _ s z=> @Bool.rec (λ_=>RO) (.no [92]) z (Nat.beq a0 s))
 (λ_ _ _ _=> .no [91])
 () (λ_ _ _ _=>())
def uAt:V->(V->RO)->RO:= @V.rec (λ_=>(V->RO)->RO) (λ_=>Unit)
 (λ_=> .no [91])
 (λa0 a1 f=>f (.nn a0 a1))
 (λa0 a1 f=>f (.zz a0 a1))
 (λa0 f=>f (.bb a0))
 (λa0 f=>f (.st a0))
 (λa0 _ _ f=>f (.bb a0))
 (λa0 f=>f (.mg a0))
 (λa0 f=>f (.uu a0))
 (λa0 a1 f=>f (.pp a0 a1))
 (λa0 a1 a2 a3 f=>f (.ee a0 a1 a2 a3))
 (λa0 a1 a2 a3 a4 f=>f (.sl a0 a1 a2 a3 a4))
 (λa0 a1 a2 a3 f=>f (.gs a0 a1 a2 a3))
 (λa0 f=>f (.mm a0))
 (λa0 a1 f=>f (.cl a0 a1))
 (λa0 a1 a2 _ f=>f (.bf a0 a1 a2))
 (λf=>f .dl)
 (λa0 a1 f=>f (.lp a0 a1))
 (λf=>f .em)
 (λ_ _ _ _=> .no [91])
 (λ_ _ _=> .no [91])
 () (λ_ _ _ _=>())
def Dj:V->(Nat->RO)->Nat->(V->RO)->RO:= @V.rec (λ_=>(Nat->RO)->Nat->(V->RO)->RO) (λ_=>Unit)
 (λ_ _ _=> .no [91])
 (λ_ _ g p _=>g p)
 (λ_ _ g p _=>g p)
 (λ_ g p _=>g p)
 (λ_ g p _=>g p)
 (λ_ a1 a2 g p f=> @Nat.rec (λ_=>RO) (f (.mg a1)) (λq _=> @Nat.rec (λ_=>RO) (f (.mg (@Bool.rec (λ_=>Nat) a2 0 (Nat.beq a2 1)))) (λq _=>g q) q) p)
 (λ_ g p _=>g p)
 (λ_ g p _=>g p)
 (λ_ _ g p _=>g p)
 (λ_ _ _ _ g p _=>g p)
 (λ_ _ _ _ _ g p _=>g p)
 (λ_ _ _ _ g p _=>g p)
 (λ_ g p _=>g p)
 (λ_ _ g p _=>g p)
 (λ_ _ _ _ g p _=>g p)
 (λg p _=>g p)
 (λ_ _ g p _=>g p)
 (λg p _=>g p)
 (λ_ _ _ _ _ _=> .no [91])
 (λ_ _ _ _ _=> .no [91])
 () (λ_ _ _ _=>())
def ldL:List V->Nat->(V->RO)->RO:= @List.rec V (λ_=>Nat->(V->RO)->RO) (λ_ _=> .no [94]) (λv _ ih o f=> @Nat.rec (λ_=>RO) (uAt v f) (λp _=>Dj v (λq=>ih q f) p f) o)
def ld1:V->Nat->(V->RO)->RO:= @V.rec (λ_=>Nat->(V->RO)->RO) (λ_=>Unit)
 (λ_ _=> .no [91])
 (λa0 a1 o f=> @Nat.rec (λ_=>RO) (f (.nn a0 a1)) (λ_ _=> .no [94]) o)
 (λa0 a1 o f=> @Nat.rec (λ_=>RO) (f (.zz a0 a1)) (λ_ _=> .no [94]) o)
 (λa0 o f=> @Nat.rec (λ_=>RO) (f (.bb a0)) (λ_ _=> .no [94]) o)
 (λa0 o f=> @Nat.rec (λ_=>RO) (f (.st a0)) (λ_ _=> .no [94]) o)
 (λa0 a1 a2 o f=> @Nat.rec (λ_=>RO) (f (.bb a0)) (λp _=> @Nat.rec (λ_=>RO) (f (.mg a1)) (λp _=> @Nat.rec (λ_=>RO) (f (.mg (@Bool.rec (λ_=>Nat) a2 0 (Nat.beq a2 1)))) (λ_ _=> .no [94]) p) p) o)
 (λa0 o f=> @Nat.rec (λ_=>RO) (f (.mg a0)) (λ_ _=> .no [94]) o)
 (λa0 o f=> @Nat.rec (λ_=>RO) (f (.uu a0)) (λ_ _=> .no [94]) o)
 (λa0 a1 o f=> @Nat.rec (λ_=>RO) (f (.pp a0 a1)) (λ_ _=> .no [94]) o)
 (λa0 a1 a2 a3 o f=> @Nat.rec (λ_=>RO) (f (.ee a0 a1 a2 a3)) (λ_ _=> .no [94]) o)
 (λa0 a1 a2 a3 a4 o f=> @Nat.rec (λ_=>RO) (f (.sl a0 a1 a2 a3 a4)) (λ_ _=> .no [94]) o)
 (λa0 a1 a2 a3 o f=> @Nat.rec (λ_=>RO) (f (.gs a0 a1 a2 a3)) (λ_ _=> .no [94]) o)
 (λa0 o f=> @Nat.rec (λ_=>RO) (f (.mm a0)) (λ_ _=> .no [94]) o)
 (λa0 a1 o f=> @Nat.rec (λ_=>RO) (f (.cl a0 a1)) (λ_ _=> .no [94]) o)
 (λa0 a1 a2 _ o f=> @Nat.rec (λ_=>RO) (f (.bf a0 a1 a2)) (λ_ _=> .no [94]) o)
 (λo f=> @Nat.rec (λ_=>RO) (f .dl) (λ_ _=> .no [94]) o)
 (λa0 a1 o f=> @Nat.rec (λ_=>RO) (f (.lp a0 a1)) (λ_ _=> .no [94]) o)
 (λo f=> @Nat.rec (λ_=>RO) (f .em) (λ_ _=> .no [94]) o)
 (λ_ a1 _ o f=>ldL a1 o f)
 (λ_ _ _ _=> .no [91])
 () (λ_ _ _ _=>())
def uAt3:V->(V->RO)->RO->RO:= @V.rec (λ_=>(V->RO)->RO->RO) (λ_=>Unit)
 (λ_ z=>z)
 (λ_ _ _ z=>z)
 (λ_ _ _ z=>z)
 (λ_ _ z=>z)
 (λ_ _ z=>z)
 (λa0 a1 a2 f _=>f (.qq a0 a1 a2))
 (λ_ _ z=>z)
 (λ_ _ z=>z)
 (λ_ _ _ z=>z)
 (λ_ _ _ _ _ z=>z)
 (λ_ _ _ _ _ _ z=>z)
 (λ_ _ _ _ _ z=>z)
 (λ_ _ z=>z)
 (λ_ _ _ z=>z)
 (λ_ _ _ _ _ z=>z)
 (λ_ z=>z)
 (λ_ _ _ z=>z)
 (λ_ z=>z)
 (λ_ _ _ _ z=>z)
 (λ_ _ _ z=>z)
 () (λ_ _ _ _=>())
def CL:V->(Nat->RO)->Nat->RO->RO:= @V.rec (λ_=>(Nat->RO)->Nat->RO->RO) (λ_=>Unit)
 (λ_ _ z=>z)
 (λ_ _ g p _=>g p)
 (λ_ _ g p _=>g p)
 (λ_ g p _=>g p)
 (λ_ g p _=>g p)
 (λ_ _ _ g p z=> @Nat.rec (λ_=>RO) z (λq _=> @Nat.rec (λ_=>RO) z (λq _=>g q) q) p)
 (λ_ g p _=>g p)
 (λ_ g p _=>g p)
 (λ_ _ g p _=>g p)
 (λ_ _ _ _ g p _=>g p)
 (λ_ _ _ _ _ g p _=>g p)
 (λ_ _ _ _ g p _=>g p)
 (λ_ g p _=>g p)
 (λ_ _ g p _=>g p)
 (λ_ _ _ _ g p _=>g p)
 (λg p _=>g p)
 (λ_ _ g p _=>g p)
 (λg p _=>g p)
 (λ_ _ _ _ _ z=>z)
 (λ_ _ _ _ z=>z)
 () (λ_ _ _ _=>())
def ldL3:List V->Nat->(V->RO)->RO->RO:= @List.rec V (λ_=>Nat->(V->RO)->RO->RO) (λ_ _ z=>z) (λv _ ih o f z=> @Nat.rec (λ_=>RO) (uAt3 v f z) (λp _=>CL v (λq=>ih q f z) p z) o)
def ldA:V->Nat->Nat->(V->RO)->RO->RO:= @V.rec (λ_=>Nat->Nat->(V->RO)->RO->RO) (λ_=>Unit)
 (λ_ _ _ _=> .no [91])
 (λ_ _ _ _ _ z=>z)
 (λ_ _ _ _ _ z=>z)
 (λ_ _ _ _ z=>z)
 (λ_ _ _ _ z=>z)
 (λa0 a1 a2 s o f z=> @Bool.rec (λ_=>RO) z (f (.qq a0 a1 a2)) (@Bool.rec (λ_=>Bool) false (Nat.beq s 3) (Nat.beq o 0)))
 (λ_ _ _ _ z=>z)
 (λ_ _ _ _ z=>z)
 (λ_ _ _ _ _ z=>z)
 (λ_ _ _ _ _ _ _ z=>z)
 (λ_ _ _ _ _ _ _ _ z=>z)
 (λ_ _ _ _ _ _ _ z=>z)
 (λ_ _ _ _ z=>z)
 (λ_ _ _ _ _ z=>z)
 (λ_ _ _ _ _ _ _ z=>z)
 (λ_ _ _ z=>z)
 (λ_ _ _ _ _ z=>z)
 (λ_ _ _ z=>z)
 (λa0 a1 _ s o f z=> @Bool.rec (λ_=>RO) (@Bool.rec (λ_=>RO) z (ldL3 a1 o f z) (Nat.beq s 3)) (f (.ag a0 a1)) (@Bool.rec (λ_=>Bool) false (Nat.beq s a0) (Nat.beq o 0)))
 (λ_ _ _ _ _ _=> .no [91])
 () (λ_ _ _ _=>())
def Dk:V->Nat->RO->RO->RO:= @V.rec (λ_=>Nat->RO->RO->RO) (λ_=>Unit)
 (λ_ _ z=>z)
 (λ_ _ w y z=> @Bool.rec (λ_=>RO) z y (Nat.beq w 1))
 (λ_ _ w y z=> @Bool.rec (λ_=>RO) z y (Nat.beq w 1))
 (λ_ w y z=> @Bool.rec (λ_=>RO) z y (Nat.beq w 1))
 (λ_ w y z=> @Bool.rec (λ_=>RO) z y (Nat.beq w 1))
 (λ_ _ _ w y z=> @Bool.rec (λ_=>RO) z y (Nat.beq w 3))
 (λ_ w y z=> @Bool.rec (λ_=>RO) z y (Nat.beq w 1))
 (λ_ w y z=> @Bool.rec (λ_=>RO) z y (Nat.beq w 1))
 (λ_ _ w y z=> @Bool.rec (λ_=>RO) z y (Nat.beq w 1))
 (λ_ _ _ _ w y z=> @Bool.rec (λ_=>RO) z y (Nat.beq w 1))
 (λ_ _ _ _ _ w y z=> @Bool.rec (λ_=>RO) z y (Nat.beq w 1))
 (λ_ _ _ _ w y z=> @Bool.rec (λ_=>RO) z y (Nat.beq w 1))
 (λ_ w y z=> @Bool.rec (λ_=>RO) z y (Nat.beq w 1))
 (λ_ _ w y z=> @Bool.rec (λ_=>RO) z y (Nat.beq w 1))
 (λ_ _ _ _ w y z=> @Bool.rec (λ_=>RO) z y (Nat.beq w 1))
 (λw y z=> @Bool.rec (λ_=>RO) z y (Nat.beq w 1))
 (λ_ _ w y z=> @Bool.rec (λ_=>RO) z y (Nat.beq w 1))
 (λw y z=> @Bool.rec (λ_=>RO) z y (Nat.beq w 1))
 (λ_ _ _ _ _ z=>z)
 (λ_ _ _ _ z=>z)
 () (λ_ _ _ _=>())
def Dl:V->Nat->(Nat->RO)->RO->RO:= @V.rec (λ_=>Nat->(Nat->RO)->RO->RO) (λ_=>Unit)
 (λ_ _ z=>z)
 (λ_ _ p g _=>g p)
 (λ_ _ p g _=>g p)
 (λ_ p g _=>g p)
 (λ_ p g _=>g p)
 (λ_ _ _ p g z=> @Nat.rec (λ_=>RO) z (λq _=> @Nat.rec (λ_=>RO) z (λq _=>g q) q) p)
 (λ_ p g _=>g p)
 (λ_ p g _=>g p)
 (λ_ _ p g _=>g p)
 (λ_ _ _ _ p g _=>g p)
 (λ_ _ _ _ _ p g _=>g p)
 (λ_ _ _ _ p g _=>g p)
 (λ_ p g _=>g p)
 (λ_ _ p g _=>g p)
 (λ_ _ _ _ p g _=>g p)
 (λp g _=>g p)
 (λ_ _ p g _=>g p)
 (λp g _=>g p)
 (λ_ _ _ _ _ z=>z)
 (λ_ _ _ _ z=>z)
 () (λ_ _ _ _=>())
def stL:List V->Nat->V->Nat->(List V->RO)->RO->RO:= @List.rec V (λ_=>Nat->V->Nat->(List V->RO)->RO->RO) (λ_ _ _ _ z=>z) (λv r ih o x w f z=> @Nat.rec (λ_=>RO) (Dk v w (f (x::r)) z) (λp _=>Dl v p (λq=>ih q x w (λl=>f (v::l)) z) z) o)
def stV:V->Nat->Nat->V->(V->RO)->RO->RO:= @V.rec (λ_=>Nat->Nat->V->(V->RO)->RO->RO) (λ_=>Unit)
 (λ_ _ _ _ _=> .no [91])
 (λ_ _ o s x f z=> @Bool.rec (λ_=>RO) z (f x) (@Bool.rec (λ_=>Bool) false (Nat.beq s 1) (Nat.beq o 0)))
 (λ_ _ o s x f z=> @Bool.rec (λ_=>RO) z (f x) (@Bool.rec (λ_=>Bool) false (Nat.beq s 1) (Nat.beq o 0)))
 (λ_ o s x f z=> @Bool.rec (λ_=>RO) z (f x) (@Bool.rec (λ_=>Bool) false (Nat.beq s 1) (Nat.beq o 0)))
 (λ_ o s x f z=> @Bool.rec (λ_=>RO) z (f x) (@Bool.rec (λ_=>Bool) false (Nat.beq s 1) (Nat.beq o 0)))
 (λ_ _ _ o s x f z=> @Bool.rec (λ_=>RO) z (f x) (@Bool.rec (λ_=>Bool) false (Nat.beq s 3) (Nat.beq o 0)))
 (λ_ o s x f z=> @Bool.rec (λ_=>RO) z (f x) (@Bool.rec (λ_=>Bool) false (Nat.beq s 1) (Nat.beq o 0)))
 (λ_ o s x f z=> @Bool.rec (λ_=>RO) z (f x) (@Bool.rec (λ_=>Bool) false (Nat.beq s 1) (Nat.beq o 0)))
 (λ_ _ o s x f z=> @Bool.rec (λ_=>RO) z (f x) (@Bool.rec (λ_=>Bool) false (Nat.beq s 1) (Nat.beq o 0)))
 (λ_ _ _ _ o s x f z=> @Bool.rec (λ_=>RO) z (f x) (@Bool.rec (λ_=>Bool) false (Nat.beq s 1) (Nat.beq o 0)))
 (λ_ _ _ _ _ o s x f z=> @Bool.rec (λ_=>RO) z (f x) (@Bool.rec (λ_=>Bool) false (Nat.beq s 1) (Nat.beq o 0)))
 (λ_ _ _ _ o s x f z=> @Bool.rec (λ_=>RO) z (f x) (@Bool.rec (λ_=>Bool) false (Nat.beq s 1) (Nat.beq o 0)))
 (λ_ o s x f z=> @Bool.rec (λ_=>RO) z (f x) (@Bool.rec (λ_=>Bool) false (Nat.beq s 1) (Nat.beq o 0)))
 (λ_ _ o s x f z=> @Bool.rec (λ_=>RO) z (f x) (@Bool.rec (λ_=>Bool) false (Nat.beq s 1) (Nat.beq o 0)))
 (λ_ _ _ _ o s x f z=> @Bool.rec (λ_=>RO) z (f x) (@Bool.rec (λ_=>Bool) false (Nat.beq s 1) (Nat.beq o 0)))
 (λo s x f z=> @Bool.rec (λ_=>RO) z (f x) (@Bool.rec (λ_=>Bool) false (Nat.beq s 1) (Nat.beq o 0)))
 (λ_ _ o s x f z=> @Bool.rec (λ_=>RO) z (f x) (@Bool.rec (λ_=>Bool) false (Nat.beq s 1) (Nat.beq o 0)))
 (λo s x f z=> @Bool.rec (λ_=>RO) z (f x) (@Bool.rec (λ_=>Bool) false (Nat.beq s 1) (Nat.beq o 0)))
 (λa0 a1 _ o s x f z=> @Bool.rec (λ_=>RO) (stL a1 o x s (λl=>f (.ag a0 l)) z) (f x) (@Bool.rec (λ_=>Bool) false (Nat.beq s a0) (Nat.beq o 0)))
 (λ_ _ _ _ _ _ _=> .no [91])
 () (λ_ _ _ _=>())
def qX:V->Nat->RO->RO->RO:= @V.rec (λ_=>Nat->RO->RO->RO) (λ_=>Unit)
 (λ_ _ _=> .no [91])
 (λ_ _ s y _=> @Bool.rec (λ_=>RO) (.no [92]) y (Nat.beq 1 s))
 (λ_ _ s y _=> @Bool.rec (λ_=>RO) (.no [92]) y (Nat.beq 1 s))
 (λ_ s y _=> @Bool.rec (λ_=>RO) (.no [92]) y (Nat.beq 1 s))
 (λ_ s y _=> @Bool.rec (λ_=>RO) (.no [92]) y (Nat.beq 1 s))
 (λ_ _ _ s y _=> @Bool.rec (λ_=>RO) (.no [92]) y (Nat.beq 3 s))
 (λ_ s y _=> @Bool.rec (λ_=>RO) (.no [92]) y (Nat.beq 1 s))
 (λ_ s y _=> @Bool.rec (λ_=>RO) (.no [92]) y (Nat.beq 1 s))
 (λ_ _ s y _=> @Bool.rec (λ_=>RO) (.no [92]) y (Nat.beq 1 s))
 (λ_ _ _ _ s y _=> @Bool.rec (λ_=>RO) (.no [92]) y (Nat.beq 1 s))
 (λ_ _ _ _ _ s y _=> @Bool.rec (λ_=>RO) (.no [92]) y (Nat.beq 1 s))
 (λ_ _ _ _ s y _=> @Bool.rec (λ_=>RO) (.no [92]) y (Nat.beq 1 s))
 (λ_ s y _=> @Bool.rec (λ_=>RO) (.no [92]) y (Nat.beq 1 s))
 (λ_ _ s y _=> @Bool.rec (λ_=>RO) (.no [92]) y (Nat.beq 1 s))
 (λ_ _ _ _ s y _=> @Bool.rec (λ_=>RO) (.no [92]) y (Nat.beq 1 s))
 (λs y _=> @Bool.rec (λ_=>RO) (.no [92]) y (Nat.beq 1 s))
 (λ_ _ s y _=> @Bool.rec (λ_=>RO) (.no [92]) y (Nat.beq 1 s))
 (λs y _=> @Bool.rec (λ_=>RO) (.no [92]) y (Nat.beq 1 s))
 (λa0 _ _ s _ z=> @Bool.rec (λ_=>RO) (.no [92]) z (Nat.beq a0 s))
 (λ_ _ _ _ _=> .no [91])
 () (λ_ _ _ _=>())
def frcV{X:Type}:V->(V->X)->X->X:= @V.rec (λ_=>(V->X)->X->X) (λ_=>Unit)
 (λ_ z=>z)
 (λa0 a1 f _=>f (.nn a0 a1))
 (λa0 a1 f _=>f (.zz a0 a1))
 (λa0 f _=>f (.bb a0))
 (λa0 f _=>f (.st a0))
 (λa0 a1 a2 f _=>f (.qq a0 a1 a2))
 (λa0 f _=>f (.mg a0))
 (λa0 f _=>f (.uu a0))
 (λa0 a1 f _=>f (.pp a0 a1))
 (λa0 a1 a2 a3 f _=>f (.ee a0 a1 a2 a3))
 (λa0 a1 a2 a3 a4 f _=>f (.sl a0 a1 a2 a3 a4))
 (λa0 a1 a2 a3 f _=>f (.gs a0 a1 a2 a3))
 (λa0 f _=>f (.mm a0))
 (λa0 a1 f _=>f (.cl a0 a1))
 (λa0 a1 a2 _ f _=>f (.bf a0 a1 a2))
 (λf _=>f .dl)
 (λa0 a1 f _=>f (.lp a0 a1))
 (λf _=>f .em)
 (λa0 a1 _ f _=>f (.ag a0 a1))
 (λa0 _ f _=>f (.tu a0))
 () (λ_ _ _ _=>())
def kNum:IntKind->Nat:= @IntKind.rec (λ_=>Nat) 0 1 2 3 4 5 6 7
def kLim:IntKind->Nat:= @IntKind.rec (λ_=>Nat) 128 32768 2147483648 9223372036854775808 128 32768 2147483648 9223372036854775808
def w0{α:Type}:N16 α->α->N16 α:= @N16.rec α (λ_=>α->N16 α) λ_ c1 c2 c3 c4 c5 c6 c7 c8 c9 c10 c11 c12 c13 c14 c15 v=>⟨v,c1,c2,c3,c4,c5,c6,c7,c8,c9,c10,c11,c12,c13,c14,c15⟩
def w1{α:Type}:N16 α->α->N16 α:= @N16.rec α (λ_=>α->N16 α) λc0 _ c2 c3 c4 c5 c6 c7 c8 c9 c10 c11 c12 c13 c14 c15 v=>⟨c0,v,c2,c3,c4,c5,c6,c7,c8,c9,c10,c11,c12,c13,c14,c15⟩
def w2{α:Type}:N16 α->α->N16 α:= @N16.rec α (λ_=>α->N16 α) λc0 c1 _ c3 c4 c5 c6 c7 c8 c9 c10 c11 c12 c13 c14 c15 v=>⟨c0,c1,v,c3,c4,c5,c6,c7,c8,c9,c10,c11,c12,c13,c14,c15⟩
def w3{α:Type}:N16 α->α->N16 α:= @N16.rec α (λ_=>α->N16 α) λc0 c1 c2 _ c4 c5 c6 c7 c8 c9 c10 c11 c12 c13 c14 c15 v=>⟨c0,c1,c2,v,c4,c5,c6,c7,c8,c9,c10,c11,c12,c13,c14,c15⟩
def w4{α:Type}:N16 α->α->N16 α:= @N16.rec α (λ_=>α->N16 α) λc0 c1 c2 c3 _ c5 c6 c7 c8 c9 c10 c11 c12 c13 c14 c15 v=>⟨c0,c1,c2,c3,v,c5,c6,c7,c8,c9,c10,c11,c12,c13,c14,c15⟩
def w5{α:Type}:N16 α->α->N16 α:= @N16.rec α (λ_=>α->N16 α) λc0 c1 c2 c3 c4 _ c6 c7 c8 c9 c10 c11 c12 c13 c14 c15 v=>⟨c0,c1,c2,c3,c4,v,c6,c7,c8,c9,c10,c11,c12,c13,c14,c15⟩
def w6{α:Type}:N16 α->α->N16 α:= @N16.rec α (λ_=>α->N16 α) λc0 c1 c2 c3 c4 c5 _ c7 c8 c9 c10 c11 c12 c13 c14 c15 v=>⟨c0,c1,c2,c3,c4,c5,v,c7,c8,c9,c10,c11,c12,c13,c14,c15⟩
def w7{α:Type}:N16 α->α->N16 α:= @N16.rec α (λ_=>α->N16 α) λc0 c1 c2 c3 c4 c5 c6 _ c8 c9 c10 c11 c12 c13 c14 c15 v=>⟨c0,c1,c2,c3,c4,c5,c6,v,c8,c9,c10,c11,c12,c13,c14,c15⟩
def w8{α:Type}:N16 α->α->N16 α:= @N16.rec α (λ_=>α->N16 α) λc0 c1 c2 c3 c4 c5 c6 c7 _ c9 c10 c11 c12 c13 c14 c15 v=>⟨c0,c1,c2,c3,c4,c5,c6,c7,v,c9,c10,c11,c12,c13,c14,c15⟩
def w9{α:Type}:N16 α->α->N16 α:= @N16.rec α (λ_=>α->N16 α) λc0 c1 c2 c3 c4 c5 c6 c7 c8 _ c10 c11 c12 c13 c14 c15 v=>⟨c0,c1,c2,c3,c4,c5,c6,c7,c8,v,c10,c11,c12,c13,c14,c15⟩
def w10{α:Type}:N16 α->α->N16 α:= @N16.rec α (λ_=>α->N16 α) λc0 c1 c2 c3 c4 c5 c6 c7 c8 c9 _ c11 c12 c13 c14 c15 v=>⟨c0,c1,c2,c3,c4,c5,c6,c7,c8,c9,v,c11,c12,c13,c14,c15⟩
def w11{α:Type}:N16 α->α->N16 α:= @N16.rec α (λ_=>α->N16 α) λc0 c1 c2 c3 c4 c5 c6 c7 c8 c9 c10 _ c12 c13 c14 c15 v=>⟨c0,c1,c2,c3,c4,c5,c6,c7,c8,c9,c10,v,c12,c13,c14,c15⟩
def w12{α:Type}:N16 α->α->N16 α:= @N16.rec α (λ_=>α->N16 α) λc0 c1 c2 c3 c4 c5 c6 c7 c8 c9 c10 c11 _ c13 c14 c15 v=>⟨c0,c1,c2,c3,c4,c5,c6,c7,c8,c9,c10,c11,v,c13,c14,c15⟩
def w13{α:Type}:N16 α->α->N16 α:= @N16.rec α (λ_=>α->N16 α) λc0 c1 c2 c3 c4 c5 c6 c7 c8 c9 c10 c11 c12 _ c14 c15 v=>⟨c0,c1,c2,c3,c4,c5,c6,c7,c8,c9,c10,c11,c12,v,c14,c15⟩
def w14{α:Type}:N16 α->α->N16 α:= @N16.rec α (λ_=>α->N16 α) λc0 c1 c2 c3 c4 c5 c6 c7 c8 c9 c10 c11 c12 c13 _ c15 v=>⟨c0,c1,c2,c3,c4,c5,c6,c7,c8,c9,c10,c11,c12,c13,v,c15⟩
def w15{α:Type}:N16 α->α->N16 α:= @N16.rec α (λ_=>α->N16 α) λc0 c1 c2 c3 c4 c5 c6 c7 c8 c9 c10 c11 c12 c13 c14 _ v=>⟨c0,c1,c2,c3,c4,c5,c6,c7,c8,c9,c10,c11,c12,c13,c14,v⟩
abbrev T0:=Option KB
abbrev T1:=N16 T0
abbrev T2:=N16 T1
abbrev T3:=N16 T2
abbrev T4:=N16 T3
def mg4:D16->T4->T3:= @D16.rec (λ_=>T4->T3) (@N16.c0 _) (@N16.c1 _) (@N16.c2 _) (@N16.c3 _) (@N16.c4 _) (@N16.c5 _) (@N16.c6 _) (@N16.c7 _) (@N16.c8 _) (@N16.c9 _) (@N16.c10 _) (@N16.c11 _) (@N16.c12 _) (@N16.c13 _) (@N16.c14 _) (@N16.c15 _)
def ms4:D16->T4->T3->T4:= @D16.rec (λ_=>T4->T3->T4) w0 w1 w2 w3 w4 w5 w6 w7 w8 w9 w10 w11 w12 w13 w14 w15
def mg3:D16->T3->T2:= @D16.rec (λ_=>T3->T2) (@N16.c0 _) (@N16.c1 _) (@N16.c2 _) (@N16.c3 _) (@N16.c4 _) (@N16.c5 _) (@N16.c6 _) (@N16.c7 _) (@N16.c8 _) (@N16.c9 _) (@N16.c10 _) (@N16.c11 _) (@N16.c12 _) (@N16.c13 _) (@N16.c14 _) (@N16.c15 _)
def ms3:D16->T3->T2->T3:= @D16.rec (λ_=>T3->T2->T3) w0 w1 w2 w3 w4 w5 w6 w7 w8 w9 w10 w11 w12 w13 w14 w15
def mg2:D16->T2->T1:= @D16.rec (λ_=>T2->T1) (@N16.c0 _) (@N16.c1 _) (@N16.c2 _) (@N16.c3 _) (@N16.c4 _) (@N16.c5 _) (@N16.c6 _) (@N16.c7 _) (@N16.c8 _) (@N16.c9 _) (@N16.c10 _) (@N16.c11 _) (@N16.c12 _) (@N16.c13 _) (@N16.c14 _) (@N16.c15 _)
def ms2:D16->T2->T1->T2:= @D16.rec (λ_=>T2->T1->T2) w0 w1 w2 w3 w4 w5 w6 w7 w8 w9 w10 w11 w12 w13 w14 w15
def mg1:D16->T1->T0:= @D16.rec (λ_=>T1->T0) (@N16.c0 _) (@N16.c1 _) (@N16.c2 _) (@N16.c3 _) (@N16.c4 _) (@N16.c5 _) (@N16.c6 _) (@N16.c7 _) (@N16.c8 _) (@N16.c9 _) (@N16.c10 _) (@N16.c11 _) (@N16.c12 _) (@N16.c13 _) (@N16.c14 _) (@N16.c15 _)
def ms1:D16->T1->T0->T1:= @D16.rec (λ_=>T1->T0->T1) w0 w1 w2 w3 w4 w5 w6 w7 w8 w9 w10 w11 w12 w13 w14 w15
def zF(m:qM)(k:Key):Option KB:=mg1 k.d (mg2 k.c (mg3 k.b (mg4 k.a m)))
def AQ(m:qM)(k:Key)(v:Option KB):qM:=ms4 k.a m (ms3 k.b (mg4 k.a m) (ms2 k.c (mg3 k.b (mg4 k.a m)) (ms1 k.d (mg2 k.c (mg3 k.b (mg4 k.a m))) v)))
def eo0:Env16->(N16 V->N16 V)->Env16:= @Env16.rec (λ_=>(N16 V->N16 V)->Env16) λlo hi=> @N16.rec (N16 V) (λ_=>(N16 V->N16 V)->Env16) (λc0 c1 c2 c3 c4 c5 c6 c7 c8 c9 c10 c11 c12 c13 c14 c15 f=>⟨⟨f c0,c1,c2,c3,c4,c5,c6,c7,c8,c9,c10,c11,c12,c13,c14,c15⟩,hi⟩) lo
def eo1:Env16->(N16 V->N16 V)->Env16:= @Env16.rec (λ_=>(N16 V->N16 V)->Env16) λlo hi=> @N16.rec (N16 V) (λ_=>(N16 V->N16 V)->Env16) (λc0 c1 c2 c3 c4 c5 c6 c7 c8 c9 c10 c11 c12 c13 c14 c15 f=>⟨⟨c0,f c1,c2,c3,c4,c5,c6,c7,c8,c9,c10,c11,c12,c13,c14,c15⟩,hi⟩) lo
def eo2:Env16->(N16 V->N16 V)->Env16:= @Env16.rec (λ_=>(N16 V->N16 V)->Env16) λlo hi=> @N16.rec (N16 V) (λ_=>(N16 V->N16 V)->Env16) (λc0 c1 c2 c3 c4 c5 c6 c7 c8 c9 c10 c11 c12 c13 c14 c15 f=>⟨⟨c0,c1,f c2,c3,c4,c5,c6,c7,c8,c9,c10,c11,c12,c13,c14,c15⟩,hi⟩) lo
def eo3:Env16->(N16 V->N16 V)->Env16:= @Env16.rec (λ_=>(N16 V->N16 V)->Env16) λlo hi=> @N16.rec (N16 V) (λ_=>(N16 V->N16 V)->Env16) (λc0 c1 c2 c3 c4 c5 c6 c7 c8 c9 c10 c11 c12 c13 c14 c15 f=>⟨⟨c0,c1,c2,f c3,c4,c5,c6,c7,c8,c9,c10,c11,c12,c13,c14,c15⟩,hi⟩) lo
def eo4:Env16->(N16 V->N16 V)->Env16:= @Env16.rec (λ_=>(N16 V->N16 V)->Env16) λlo hi=> @N16.rec (N16 V) (λ_=>(N16 V->N16 V)->Env16) (λc0 c1 c2 c3 c4 c5 c6 c7 c8 c9 c10 c11 c12 c13 c14 c15 f=>⟨⟨c0,c1,c2,c3,f c4,c5,c6,c7,c8,c9,c10,c11,c12,c13,c14,c15⟩,hi⟩) lo
def eo5:Env16->(N16 V->N16 V)->Env16:= @Env16.rec (λ_=>(N16 V->N16 V)->Env16) λlo hi=> @N16.rec (N16 V) (λ_=>(N16 V->N16 V)->Env16) (λc0 c1 c2 c3 c4 c5 c6 c7 c8 c9 c10 c11 c12 c13 c14 c15 f=>⟨⟨c0,c1,c2,c3,c4,f c5,c6,c7,c8,c9,c10,c11,c12,c13,c14,c15⟩,hi⟩) lo
def eo6:Env16->(N16 V->N16 V)->Env16:= @Env16.rec (λ_=>(N16 V->N16 V)->Env16) λlo hi=> @N16.rec (N16 V) (λ_=>(N16 V->N16 V)->Env16) (λc0 c1 c2 c3 c4 c5 c6 c7 c8 c9 c10 c11 c12 c13 c14 c15 f=>⟨⟨c0,c1,c2,c3,c4,c5,f c6,c7,c8,c9,c10,c11,c12,c13,c14,c15⟩,hi⟩) lo
def eo7:Env16->(N16 V->N16 V)->Env16:= @Env16.rec (λ_=>(N16 V->N16 V)->Env16) λlo hi=> @N16.rec (N16 V) (λ_=>(N16 V->N16 V)->Env16) (λc0 c1 c2 c3 c4 c5 c6 c7 c8 c9 c10 c11 c12 c13 c14 c15 f=>⟨⟨c0,c1,c2,c3,c4,c5,c6,f c7,c8,c9,c10,c11,c12,c13,c14,c15⟩,hi⟩) lo
def eo8:Env16->(N16 V->N16 V)->Env16:= @Env16.rec (λ_=>(N16 V->N16 V)->Env16) λlo hi=> @N16.rec (N16 V) (λ_=>(N16 V->N16 V)->Env16) (λc0 c1 c2 c3 c4 c5 c6 c7 c8 c9 c10 c11 c12 c13 c14 c15 f=>⟨⟨c0,c1,c2,c3,c4,c5,c6,c7,f c8,c9,c10,c11,c12,c13,c14,c15⟩,hi⟩) lo
def eo9:Env16->(N16 V->N16 V)->Env16:= @Env16.rec (λ_=>(N16 V->N16 V)->Env16) λlo hi=> @N16.rec (N16 V) (λ_=>(N16 V->N16 V)->Env16) (λc0 c1 c2 c3 c4 c5 c6 c7 c8 c9 c10 c11 c12 c13 c14 c15 f=>⟨⟨c0,c1,c2,c3,c4,c5,c6,c7,c8,f c9,c10,c11,c12,c13,c14,c15⟩,hi⟩) lo
def eo10:Env16->(N16 V->N16 V)->Env16:= @Env16.rec (λ_=>(N16 V->N16 V)->Env16) λlo hi=> @N16.rec (N16 V) (λ_=>(N16 V->N16 V)->Env16) (λc0 c1 c2 c3 c4 c5 c6 c7 c8 c9 c10 c11 c12 c13 c14 c15 f=>⟨⟨c0,c1,c2,c3,c4,c5,c6,c7,c8,c9,f c10,c11,c12,c13,c14,c15⟩,hi⟩) lo
def eo11:Env16->(N16 V->N16 V)->Env16:= @Env16.rec (λ_=>(N16 V->N16 V)->Env16) λlo hi=> @N16.rec (N16 V) (λ_=>(N16 V->N16 V)->Env16) (λc0 c1 c2 c3 c4 c5 c6 c7 c8 c9 c10 c11 c12 c13 c14 c15 f=>⟨⟨c0,c1,c2,c3,c4,c5,c6,c7,c8,c9,c10,f c11,c12,c13,c14,c15⟩,hi⟩) lo
def eo12:Env16->(N16 V->N16 V)->Env16:= @Env16.rec (λ_=>(N16 V->N16 V)->Env16) λlo hi=> @N16.rec (N16 V) (λ_=>(N16 V->N16 V)->Env16) (λc0 c1 c2 c3 c4 c5 c6 c7 c8 c9 c10 c11 c12 c13 c14 c15 f=>⟨⟨c0,c1,c2,c3,c4,c5,c6,c7,c8,c9,c10,c11,f c12,c13,c14,c15⟩,hi⟩) lo
def eo13:Env16->(N16 V->N16 V)->Env16:= @Env16.rec (λ_=>(N16 V->N16 V)->Env16) λlo hi=> @N16.rec (N16 V) (λ_=>(N16 V->N16 V)->Env16) (λc0 c1 c2 c3 c4 c5 c6 c7 c8 c9 c10 c11 c12 c13 c14 c15 f=>⟨⟨c0,c1,c2,c3,c4,c5,c6,c7,c8,c9,c10,c11,c12,f c13,c14,c15⟩,hi⟩) lo
def eo14:Env16->(N16 V->N16 V)->Env16:= @Env16.rec (λ_=>(N16 V->N16 V)->Env16) λlo hi=> @N16.rec (N16 V) (λ_=>(N16 V->N16 V)->Env16) (λc0 c1 c2 c3 c4 c5 c6 c7 c8 c9 c10 c11 c12 c13 c14 c15 f=>⟨⟨c0,c1,c2,c3,c4,c5,c6,c7,c8,c9,c10,c11,c12,c13,f c14,c15⟩,hi⟩) lo
def eo15:Env16->(N16 V->N16 V)->Env16:= @Env16.rec (λ_=>(N16 V->N16 V)->Env16) λlo hi=> @N16.rec (N16 V) (λ_=>(N16 V->N16 V)->Env16) (λc0 c1 c2 c3 c4 c5 c6 c7 c8 c9 c10 c11 c12 c13 c14 c15 f=>⟨⟨c0,c1,c2,c3,c4,c5,c6,c7,c8,c9,c10,c11,c12,c13,c14,f c15⟩,hi⟩) lo
structure GE where
 f:Env16->V
structure SE where
 f:V->Env16->Env16
def gRow(f:Env16->N16 V):D16->GE:= @D16.rec (λ_=>GE) ⟨λe=>(f e).c0⟩ ⟨λe=>(f e).c1⟩ ⟨λe=>(f e).c2⟩ ⟨λe=>(f e).c3⟩ ⟨λe=>(f e).c4⟩ ⟨λe=>(f e).c5⟩ ⟨λe=>(f e).c6⟩ ⟨λe=>(f e).c7⟩ ⟨λe=>(f e).c8⟩ ⟨λe=>(f e).c9⟩ ⟨λe=>(f e).c10⟩ ⟨λe=>(f e).c11⟩ ⟨λe=>(f e).c12⟩ ⟨λe=>(f e).c13⟩ ⟨λe=>(f e).c14⟩ ⟨λe=>(f e).c15⟩
def gTab:D16->D16->GE:= @D16.rec (λ_=>D16->GE) (gRow λe=>e.lo.c0) (gRow λe=>e.lo.c1) (gRow λe=>e.lo.c2) (gRow λe=>e.lo.c3) (gRow λe=>e.lo.c4) (gRow λe=>e.lo.c5) (gRow λe=>e.lo.c6) (gRow λe=>e.lo.c7) (gRow λe=>e.lo.c8) (gRow λe=>e.lo.c9) (gRow λe=>e.lo.c10) (gRow λe=>e.lo.c11) (gRow λe=>e.lo.c12) (gRow λe=>e.lo.c13) (gRow λe=>e.lo.c14) (gRow λe=>e.lo.c15)
def sRow(o:Env16->(N16 V->N16 V)->Env16):D16->SE:= @D16.rec (λ_=>SE) ⟨λv e=>o e λr=>w0 r v⟩ ⟨λv e=>o e λr=>w1 r v⟩ ⟨λv e=>o e λr=>w2 r v⟩ ⟨λv e=>o e λr=>w3 r v⟩ ⟨λv e=>o e λr=>w4 r v⟩ ⟨λv e=>o e λr=>w5 r v⟩ ⟨λv e=>o e λr=>w6 r v⟩ ⟨λv e=>o e λr=>w7 r v⟩ ⟨λv e=>o e λr=>w8 r v⟩ ⟨λv e=>o e λr=>w9 r v⟩ ⟨λv e=>o e λr=>w10 r v⟩ ⟨λv e=>o e λr=>w11 r v⟩ ⟨λv e=>o e λr=>w12 r v⟩ ⟨λv e=>o e λr=>w13 r v⟩ ⟨λv e=>o e λr=>w14 r v⟩ ⟨λv e=>o e λr=>w15 r v⟩
def sTab:D16->D16->SE:= @D16.rec (λ_=>D16->SE) (sRow eo0) (sRow eo1) (sRow eo2) (sRow eo3) (sRow eo4) (sRow eo5) (sRow eo6) (sRow eo7) (sRow eo8) (sRow eo9) (sRow eo10) (sRow eo11) (sRow eo12) (sRow eo13) (sRow eo14) (sRow eo15)
end
noncomputable section
structure BE where
 k:Nat
 es:Nat
 l:List V
structure DE where
 xs:List V
 bs:List (Key×BE)
 v:V
 ns:List (Key×BE)
abbrev Rn:=List (Key×Key)
def q9(n:Nat):Key:=⟨.d0,.d0,D16.of (Nat.div n 16),D16.of (Nat.mod n 16)⟩
def kqB(a b:Key):Bool:=Nat.beq a.num b.num
def rlk(R:Rn)(k:Key):Option Key:= @List.rec (Key×Key) (λ_=>Option Key) none (λp _ ih=> @Bool.rec (λ_=>Option Key) ih (some p.2) (kqB p.1 k)) R
def rhas(R:Rn)(a b:Key):Bool:=match rlk R a with|some k=>kqB k b|none=>false
def uuB(v w:Value):Bool:=match v with
 | .slice none a b=>(match w with| .slice none a' b'=>Nat.beq a a'&&Nat.beq b b'|_=>false)
 | .pointer none=>(match w with| .pointer none=>true|_=>false)
 | .map none=>(match w with| .map none=>true|_=>false)
 |_=>false
def cq1(R:Rn)(a b:V):Bool:=match a with
 | .qq s n d=>(match b with| .qq s' n' d'=>Nat.beq n n'&&(Nat.beq d d'&&(s==s'))|_=>false)
 | .nn k n=>(match b with| .nn k' n'=>Nat.beq n n'&&keq k k'|_=>false)
 | .zz k n=>(match b with| .zz k' n'=>Nat.beq n n'&&keq k k'|_=>false)
 | .bb x=>(match b with| .bb y=>x==y|_=>false)
 | .st l=>(match b with| .st l'=>beqN l l'|_=>false)
 | .mg n=>(match b with| .mg n'=>Nat.beq n n'|_=>false)
 | .uu v=>(match b with| .uu w=>uuB v w|_=>false)
 | .pp k o=>(match b with| .pp k' o'=>rhas R k k'&&Nat.beq o o'|_=>false)
 | .ee k i o w=>(match b with| .ee k' i' o' w'=>rhas R k k'&&(Nat.beq i i'&&(Nat.beq o o'&&Nat.beq w w'))|_=>false)
 | .sl k lo n c w=>(match b with| .sl k' lo' n' c' w'=>rhas R k k'&&(Nat.beq lo lo'&&(Nat.beq n n'&&(Nat.beq c c'&&Nat.beq w w')))|_=>false)
 | .gs k lo n w=>(match b with| .gs k' lo' n' w'=>rhas R k k'&&(Nat.beq lo lo'&&(Nat.beq n n'&&Nat.beq w w'))|_=>false)
 | .mm k=>(match b with| .mm k'=>rhas R k k'|_=>false)
 | .em=>(match b with| .em=>true|_=>false)
 |_=>false
def cqU(R:Rn):List V->List V->Bool:= @List.rec V (λ_=>List V->Bool) (λl=>match l with|[]=>true|_=>false) (λa _ ih l=>match l with|b::r=> @Bool.rec (λ_=>Bool) false (ih r) (cq1 R a b)|[]=>false)
def cqC(R:Rn)(a b:V):Bool:=match a with
 | .ag w l=>(match b with| .ag w' l'=>Nat.beq w w'&&cqU R l l'|_=>false)
 |a=>cq1 R a b
def cqT(R:Rn):List V->List V->Bool:= @List.rec V (λ_=>List V->Bool) (λl=>match l with|[]=>true|_=>false) (λa _ ih l=>match l with|b::r=> @Bool.rec (λ_=>Bool) false (ih r) (cqC R a b)|[]=>false)
def cqV(R:Rn)(a b:V):Bool:=match a with
 | .tu l=>(match b with| .tu l'=>cqT R l l'|_=>false)
 |a=>cqC R a b
def cqB(R:Rn)(a:BE)(b:KB):Bool:=match b with
 | .bx v=>(match a.l with|[u]=>Nat.beq a.k 0&&cqC R u v|_=>false)
 | .arr es n q=>Nat.beq a.k 1&&(Nat.beq a.es es&&cqT R a.l (Sq.toL .und q 0 n))
 | .gro es n q=>Nat.beq a.k 2&&(Nat.beq a.es es&&cqT R a.l (Sq.toL .und q 0 n))
 |_=>false
def addK(a b:Key)(R:Rn):Rn:=match rlk R a with|some _=>R|none=>(a,b)::R
def wk1(a b:V)(R:Rn):Rn:=match a with
 | .pp k _=>(match b with| .pp k' _=>addK k k' R|_=>R)
 | .ee k _ _ _=>(match b with| .ee k' _ _ _=>addK k k' R|_=>R)
 | .sl k _ _ _ _=>(match b with| .sl k' _ _ _ _=>addK k k' R|_=>R)
 | .gs k _ _ _=>(match b with| .gs k' _ _ _=>addK k k' R|_=>R)
 | .mm k=>(match b with| .mm k'=>addK k k' R|_=>R)
 |_=>R
def wkL:List V->List V->Rn->Rn:= @List.rec V (λ_=>List V->Rn->Rn) (λ_ R=>R) (λa _ ih l R=>match l with|b::r=>ih r (wk1 a b R)|[]=>R)
def wkC(a b:V)(R:Rn):Rn:=match a with
 | .ag _ l=>(match b with| .ag _ l'=>wkL l l' R|_=>R)
 |a=>wk1 a b R
def wkT:List V->List V->Rn->Rn:= @List.rec V (λ_=>List V->Rn->Rn) (λ_ R=>R) (λa _ ih l R=>match l with|b::r=>ih r (wkC a b R)|[]=>R)
def wkV(a b:V)(R:Rn):Rn:=match a with
 | .tu l=>(match b with| .tu l'=>wkT l l' R|_=>R)
 |a=>wkC a b R
def wkB(a:BE)(b:KB)(R:Rn):Rn:=match b with
 | .bx v=>(match a.l with|[u]=>wkC u v R|_=>R)
 | .arr _ n q=>wkT a.l (Sq.toL .und q 0 n) R
 | .gro _ n q=>wkT a.l (Sq.toL .und q 0 n) R
 |_=>R
def bndR(m:qM)(bs:List (Key×BE)):Rn->Option Rn:= @List.rec (Key×BE) (λ_=>Rn->Option Rn) (λR=>some R) (λp _ ih R=>match rlk R p.1 with
 |some k=>(match mget m k with
  |some b=>(λR'=> @Bool.rec (λ_=>Option Rn) none (ih R') (cqB R' p.2 b)) (wkB p.2 b R)
  |none=>none)
 |none=>none) bs
def vj(R:Rn)(bs:List (Key×BE)):Rn:=bs.map λp=>(p.1,(rlk R p.1).getD p.1)
def hsB(R' R:Rn)(m:qM)(bs:List (Key×BE)):Bool:= @List.rec (Key×BE) (λ_=>Bool) true (λp _ ih=>match rlk R p.1 with
 |some k=>(match mget m k with|some b=> @Bool.rec (λ_=>Bool) false ih (cqB R' p.2 b)|none=>false)
 |none=>false) bs
def notK(k:Key)(R:Rn):Bool:= @List.rec (Key×Key) (λ_=>Bool) true (λp _ ih=> @Bool.rec (λ_=>Bool) ih false (kqB p.2 k)) R
def dsnB(R:Rn):Bool:= @List.rec (Key×Key) (λ_=>Bool) true (λp r ih=> @Bool.rec (λ_=>Bool) false ih (notK p.2 r)) R
def rnK(R:Rn)(k:Key):Key:=(rlk R k).getD k
def rn1(R:Rn)(v:V):V:=match v with
 | .pp k o=> .pp (rnK R k) o
 | .ee k i o w=> .ee (rnK R k) i o w
 | .sl k lo n c w=> .sl (rnK R k) lo n c w
 | .gs k lo n w=> .gs (rnK R k) lo n w
 | .mm k=> .mm (rnK R k)
 |v=>v
def mapR(f:V->V)(l:List V):List V:= @List.rec V (λ_=>List V) [] (λa _ ih=>f a::ih) l
def rnC(R:Rn)(v:V):V:=match v with| .ag w l=> .ag w (mapR (rn1 R) l)|v=>rn1 R v
def rnV(R:Rn)(v:V):V:=match v with| .tu l=> .tu (mapR (rnC R) l)|v=>rnC R v
def beB(b:BE):KB:= @Nat.rec (λ_=>KB) (match b.l with|[v]=> .bx v|_=> .bx .und) (λk _=> @Nat.rec (λ_=>KB) (.arr b.es b.l.length (Sq.pushL .e 0 b.l)) (λ_ _=> .gro b.es b.l.length (Sq.pushL .e 0 b.l)) k) b.k
def rnB(R:Rn)(b:BE):KB:=beB ⟨b.k,b.es,mapR (rnC R) b.l⟩
def nwK(ns:List (Key×BE)):Key->Option (Rn×Key):= @List.rec (Key×BE) (λ_=>Key->Option (Rn×Key)) (λk=>some ([],k)) (λp _ ih k=>match k.succ with
 |some k'=>(match ih k' with|some (R,k2)=>some ((p.1,k)::R,k2)|none=>none)
 |none=>none) ns
def putB(R:Rn)(ns:List (Key×BE))(m:qM):qM:= @List.rec (Key×BE) (λ_=>qM) m (λp _ ih=>mset ih (rnK R p.1) (some (rnB R p.2))) ns
def rngB(a b:Nat)(R:Rn):Bool:= @List.rec (Key×Key) (λ_=>Bool) true (λp _ ih=> @Bool.rec (λ_=>Bool) false ih (Nat.ble a p.2.num&&Nat.blt p.2.num b)) R
def useD (e : DE) (vs : List V) (s : S) : Option (V × S) := @S.rec (λ_ => Option (V × S)) (λm nx dn sc =>
 (λR0 => @Bool.rec (λ_ => Option (V × S)) none (match bndR m e.bs R0 with
  | some R1 => (λRb => match nwK e.ns nx with
   | some (Rk, nx') => (λR m' v => @Bool.rec (λ_ => Option (V × S)) none (some (v, S.mk m' nx' dn sc))
     (cqT R e.xs vs && (hsB R Rb m e.bs && (dsnB Rb && (hsB R Rk m' e.ns && (dsnB Rk && (rngB nx.num nx'.num Rk && (Nat.ble nx.num nx'.num && cqV R e.v v))))))))
    (Rb ++ Rk) (putB (Rb ++ Rk) e.ns m) (rnV (Rb ++ Rk) e.v)
   | none => none) (vj R1 e.bs)
  | none => none) (cqT R0 e.xs vs)) (wkT e.xs vs [])) s
def RR(vs:List V)(s:S)(L:List DE):RO:= @List.rec DE (λ_=>RO) (.no [60]) (λe _ ih=>match useD e vs s with|some (v,s')=> .ok v s'|none=>ih) L
def memE(bs:List (Key×BE)):qM:= @List.rec (Key×BE) (λ_=>qM) mnew (λp _ ih=>mset ih p.1 (some (beB p.2))) bs
def hU(v:V)(h:Nat):Nat:=match v with| .qq _ n d=>Nat.mod (Nat.add (Nat.mul 3 h) (Nat.add n (Nat.mul 5 d))) 61| .nn _ n=>Nat.mod (Nat.add (Nat.mul 3 h) n) 61|_=>h
def hL(l:List V):Nat->Nat:= @List.rec V (λ_=>Nat->Nat) (λh=>h) (λv _ ih h=>ih (hU v h)) l
def hE(v:V)(h:Nat):Nat:=match v with| .ag _ l=>hL l h|v=>hU v h
def hT(l:List V):Nat->Nat:= @List.rec V (λ_=>Nat->Nat) (λh=>h) (λv _ ih h=>ih (hE v h)) l
def uuO(v:Value):Bool:=match v with| .slice none _ _=>true| .pointer none=>true| .map none=>true|_=>false
def ok1B(v:V):Bool:=match v with
 | .qq s n d=>!(Nat.beq d 0)&&(Nat.beq (Nat.gcd n d) 1&&(!s||!(Nat.beq n 0)))
 | .uu v=>uuO v
 | .st l=>l.all λb=>Nat.blt b 256
 | .und=>false| .ag _ _=>false| .tu _=>false| .bf _ _ _=>false
 |_=>true
def okCB(v:V):Bool:=match v with| .ag w l=>Nat.beq w (wds l)&&l.all ok1B|v=>ok1B v
def okBB(b:BE):Bool:= @Nat.rec (λ_=>Bool) (match b.l with|[v]=>okCB v|_=>false) (λ_ _=>b.l.all λv=>okCB v&&Nat.beq v.size b.es) b.k
def nx0(bs:List (Key×BE)):Key:=q9 bs.length
def stD(e:DE):S:=⟨memE e.bs,nx0 e.bs,0,[]⟩
def fitD(e:DE)(v1:V)(s1:S):Bool:= @S.rec (λ_=>Bool) (λm1 _ _ _=>(λT0=>match bndR m1 e.ns (wkV e.v v1 T0)with
 |some T1=>(λN=>(λT=>cqV T e.v v1&&(hsB T T0 m1 e.bs&&(hsB T N m1 e.ns&&dsnB T))) (T0++N)) (vj T1 e.ns)
 |none=>false) (e.bs.map λp=>(p.1,p.1))) s1
def sndB(e:DE):Bool:=e.xs.all okCB&&(e.bs.all (λp=>okBB p.2&&Nat.blt p.1.num (nx0 e.bs).num)&&e.ns.all λp=>notK p.1 (e.bs.map λp=>(p.1,p.1)))
end
end Go.Proofs.YtamiaelfnfnegaaGreatDoor.Sx.Kx
