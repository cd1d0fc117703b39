/- Some of our texts, one behind the other. -/
import Derived.Test.YtikjpdpgdmbdpaaGreatLrM22
import Derived.Test.YtikjpdpgdmbdpaaGreatLrL15
import Derived.Test.YtikjpdpgdmbdpaaGreatLrM11
import Derived.Test.YtikjpdpgdmbdpaaGreatLrM21
set_option linter.all false
/- Ours. -/
namespace Go.Proofs.YtikjpdpgdmbdpaaGreat
open Go.RowKit
theorem Bw {p:Plan} (hp:PF p) (hnn:p.nodes≤1000) {M:Mem} (hl:Len p M.ws) {c:Int} (hc:0≤c∧c<D.bG p) {l:List Int} (hL:bu p M.ws c l) (hle:(l.length:Int)≤p.nodes) {fu:Nat} (hfu:1001<fu) :
    D.dS fu p M 0 c=some (ents p M.ws l):=by
  have hN:=cE hp;unfold Len at hl
  unfold D.dS;rw [mQ kw kw,hL.word];simp only [Option.bind_some];refine uL (fun o=>o=some (ents p M.ws l)) (fun (i:Nat) (x:List Entry × Int × Int)=>∃ pre suf,l=pre++suf∧pre.length=i∧x=(ents p M.ws pre,lw suf,(i:Int))) l.length fu ⟨[],l,rfl,rfl,rfl⟩ kw ?_ ?_
  · rintro i _ hi ⟨pre,suf,e,hpl,rfl⟩
    obtain ⟨q,s,rfl⟩:∃ q s,suf=q::s:=by
      cases suf with
      | nil=>rw [e] at hi; simp at hi; omega
      | cons q s=>exact ⟨q,s,rfl⟩
    have hLq:=bu.app (e ▸ hL);have hq:=hLq.2.1;obtain ⟨q1,q2,q3⟩:=ku hp hq;have ec:D.aV (lw (q::s))=q:=lnode kw kw
    have hfp:∀ f,fp p q f=sp p q+2+f:=fun f=>rfl
    have hfl:∀ f,0≤f→f<3→D.bf p q f=fp p q f:=fun f f0 f1=>mZ hp hq ⟨f0,f1⟩
    simp only
    rw [show decide ((i:Int)<p.nodes)=true from by simp; omega,ec,show decide (q≥0)=true from by simpa using hq.1]
    simp only [cond_true,Option.bind_some]
    rw [hfl 2 kw kw,hfl 0 kw kw,hfl 1 kw kw,mQ (by rw [hfp]; omega) (by rw [hfp]; omega),hLq.2.2.word]
    simp only [Option.bind_some]
    rw [uW hLq.2.2 hnn]
    simp only [show ((0:Int)==0)=true from rfl,cond_true]
    rw [mQ (by rw [hfp]; omega) (by rw [hfp]; omega),mQ (by rw [hfp]; omega) (by rw [hfp]; omega)]
    simp only [Option.bind_some]
    have hpn:(pre.length:Int)≤1000:=kw
    have ha:appD (ents p M.ws pre) [(⟨rd M.ws (fp p q 0),rd M.ws (fp p q 1)⟩:Entry)]=some (ents p M.ws (pre++[q])):=by
      unfold appD;rw [if_pos (by simp only [vz,List.length_singleton,ents,List.length_map]; omega)];unfold ents;rw [List.map_append]
      rfl
    rw [ha]
    simp only [Option.bind_some]
    rw [cN (show -1000000≤(i:Int)+1 by omega) kw]
    exact ⟨_,rfl,pre++[q],s,by rw [e]; simp,by simp [hpl],rfl⟩
  · rintro _ ⟨pre,suf,e,hpl,rfl⟩
    have hs:suf=[]:=by
      have:=congrArg List.length e;rw [List.length_append] at this
      exact List.length_eq_zero_iff.1 kw
    subst hs;rw [List.append_nil] at e
    subst e;have ec:D.aV (lw [])=-1:=qm;simp only;rw [ec];refine ⟨(ents p M.ws l,lw [],(l.length:Int)),?_,rfl⟩;cases decide ((l.length:Int)<p.nodes) <;> rfl
theorem Cz:D.jc 4000=some true:=by decide +kernel
theorem LAt.start {p:Plan} (hp:PF p) {ws:List Int} (h:LaidAt p ws) {t:Int} (ht:0≤t∧t<p.threads) {c:Int} (hc:rd ws c=0):LAt p t ws ⟨allN p,[],fun _=>⟨0,0,0⟩⟩ 0 c []∧Alone p ws:=by
  have hP:=PoolAt.start hp h ht;refine ⟨⟨hP.toH,fun j j0 j1=>?_,hc,List.nodup_nil,fun q hq=>(by cases hq),List.Pairwise.nil⟩,hP.hz⟩
  have:=hP.hz (t * 3+j) kw kw
  rw [←Int.add_assoc] at this
  exact this
section
variable {R : Type}
def prefs (chk:List Int→Bool):Nat→T R→List Int→Bool
  | 0,_,ws=>chk ws
  | n+1,t,ws=>chk ws&&(match went t ws with
    | .over _=>true
    | .bad=>false
    | .went x w=>prefs chk n (t.next x) w)
end
def keyB (p:Plan) (j:Int):Bool:=decide (D.aM p≤j)&&decide (j<D.aM p+p.nodes * 5)&&decide ((j - D.aM p) % 5=2)
def CR (K K0 x x0:Int):Prop:=(x=K∧x0=K0)∨(x=x0∧(K≤x↔K0≤x)∧(x=K↔x=K0))
def VR (p:Plan) (K K0 j x x0:Int):Prop:=if keyB p j=true then CR K K0 x x0 else x=x0
inductive TS (p:Plan) (K K0:Int) {A A0:Type} (RR:A→A0→Prop):T A→T A0→Prop
  | cut:TS p K K0 RR .cut .cut
  | done {r:A} {r0:A0} (h:RR r r0):TS p K K0 RR (.done r) (.done r0)
  | act {op at_ a a0 b:Int} {k:Int→T A} {k0:Int→T A0} (h1:keyB p at_=true→op=0∨op=1) (h2:0≤at_→VR p K K0 at_ a a0) (h3:0≤at_→∀ x x0,VR p K K0 at_ x x0→TS p K K0 RR (k x) (k0 x0)):TS p K K0 RR (.act op at_ a b k) (.act op at_ a0 b k0)
structure WR (p:Plan) (K K0:Int) (ws ws0:List Int):Prop where
  len:ws.length=ws0.length
  at_:∀ j:Int,0≤j→VR p K K0 j (rd ws j) (rd ws0 j)
section
variable {p : Plan} {K K0 : Int} {A A0 B B0 : Type} {RR : A → A0 → Prop} {RB : B → B0 → Prop}
theorem fq {j:Int} (h:¬ (D.aM p≤j∧j<D.aM p+p.nodes * 5∧(j - D.aM p) % 5=2)):keyB p j=false:=by
  cases hk:keyB p j with
  | false=>rfl
  | true=>
    unfold keyB at hk
    simp only [Bool.and_eq_true,decide_eq_true_eq] at hk
    exact absurd ⟨hk.1.1,hk.1.2,hk.2⟩ h
theorem CR.ge {x x0:Int} (h:CR K K0 x x0):(K≤x↔K0≤x0):=by
  rcases h with ⟨rfl,rfl⟩ | ⟨rfl,h,_⟩
  · exact ⟨fun _=>Int.le_refl _,fun _=>Int.le_refl _⟩
  · exact h
theorem CR.eq {x x0:Int} (h:CR K K0 x x0):(x=K↔x0=K0):=by
  rcases h with ⟨rfl,rfl⟩ | ⟨rfl,_,h⟩
  · exact ⟨fun _=>rfl,fun _=>rfl⟩
  · exact h
theorem VR.same {j x x0:Int} (h:VR p K K0 j x x0) (hk:keyB p j=false):x=x0:=by
  unfold VR at h
  rw [hk] at h
  simpa using h
theorem VR.refl {j x:Int} (hk:keyB p j=false):VR p K K0 j x x:=by
  unfold VR;rw [hk];simp
theorem TS.bind {t:T A} {t0:T A0} {f:A→T B} {g:A0→T B0} (h:TS p K K0 RR t t0) (hf:∀ r r0,RR r r0→TS p K K0 RB (f r) (g r0)):TS p K K0 RB (t.bind f) (t0.bind g):=by
  induction h with
  | cut=>exact .cut
  | done h=>exact hf _ _ h
  | act h1 h2 _ ih=>exact .act h1 h2 fun hi x x0 hx=>ih hi x x0 hx
theorem TS.actN {op at_ a b:Int} {k:Int→T A} {k0:Int→T A0} (hk:keyB p at_=false) (h3:∀ x,TS p K K0 RR (k x) (k0 x)):TS p K K0 RR (.act op at_ a b k) (.act op at_ a b k0):=
  .act (fun h=>by rw [hk] at h; cases h) (fun _=>VR.refl hk) fun _ x x0 hx=>by
    obtain rfl:=hx.same hk;exact h3 x
theorem TS.act0 {at_ b:Int} {t:T A} {t0:T A0} (h0:CR K K0 0 0) (h3:TS p K K0 RR t t0):TS p K K0 RR (.act 1 at_ 0 b fun _=>t) (.act 1 at_ 0 b fun _=>t0):=
  .act (fun _=>.inr rfl) (fun _=>by
    unfold VR
    split
    · exact h0
    · rfl) fun _ _ _ _=>h3
theorem TS.bif {b:Bool} {t u:T A} {t0 u0:T A0} (h1:b=true→TS p K K0 RR t t0) (h2:b=false→TS p K K0 RR u u0):TS p K K0 RR (bif b then t else u) (bif b then t0 else u0):=by
  cases b
  · exact h2 rfl
  · exact h1 rfl
/-! ### What is done alike -/
theorem Cf {op at_ a a0 b x x0:Int} {ws ws0:List Int} (hw:WR p K K0 ws ws0) (hi:0≤at_∧at_<ws.length) (h1:keyB p at_=true→op=0∨op=1) (h2:VR p K K0 at_ a a0) (hx:VR p K K0 at_ x x0):WR p K K0 (ck op at_ a b x ws) (ck op at_ a0 b x0 ws0):=by
  have hset:∀ v v0,VR p K K0 at_ v v0→WR p K K0 (ws.set at_.toNat v) (ws0.set at_.toNat v0):=fun v v0 hv=>⟨by simp [hw.len],fun j hj=>by
    rw [cn hi.1 hi.2 hj,cn hi.1 (by rw [←hw.len]; exact hi.2) hj]
    by_cases e:j=at_
    · rw [if_pos e,if_pos e,e]; exact hv
    · rw [if_neg e,if_neg e]; exact hw.at_ j hj⟩
  cases hk:keyB p at_ with
  | true=>
    rcases h1 hk with rfl | rfl
    · exact hw
    · exact hset _ _ h2
  | false=>
    obtain rfl:=h2.same hk;obtain rfl:=hx.same hk;unfold ck
    repeat (first | split | exact hw | exact hset _ _ (VR.refl hk))
theorem kh {t:T A} {t0:T A0} {ws ws0:List Int} (h:TS p K K0 RR t t0) (hw:WR p K K0 ws ws0) :
    (∀ r0,went t0 ws0=.over r0→∃ r,went t ws=.over r∧RR r r0)∧(∀ x0 w0,went t0 ws0=.went x0 w0→∃ x w,went t ws=.went x w∧TS p K K0 RR (t.next x) (t0.next x0)∧WR p K K0 w w0):=by
  cases h with
  | cut=>exact ⟨nofun,nofun⟩
  | done h=>
    refine ⟨fun r0 h0=>?_,nofun⟩
    simp only [went,Went.over.injEq] at h0
    subst h0;exact ⟨_,rfl,h⟩
  | @act op at_ a a0 b k k0 h1 h2 h3=>
    refine ⟨fun r0 h0=>?_,fun x0 w0 h0=>?_⟩
    · simp only [went] at h0
      split at h0
      · split at h0 <;> cases h0
      · cases h0
    · obtain ⟨op',at',a',b',k',e,ho,hg,rfl⟩:=iN h0
      simp only [T.act.injEq] at e
      obtain ⟨rfl,rfl,rfl,rfl,rfl⟩:=e;have hi:0≤at_∧at_<ws0.length:=by
        unfold getI at hg
        split at hg
        · rename_i h4
          obtain ⟨h5,_⟩:=List.getElem?_eq_some_iff.1 hg;omega
        · cases hg
      have hi':0≤at_∧at_<ws.length:=by rw [hw.len]; exact hi
      have e0:x0=rd ws0 at_:=by rw [gk hi.1 hi.2] at hg; exact (Option.some.inj hg).symm
      have hv:VR p K K0 at_ (rd ws at_) x0:=by rw [e0]; exact hw.at_ _ hi.1
      refine ⟨rd ws at_,ck op at_ a b (rd ws at_) ws,?_,h3 hi.1 _ _ hv,Cf hw hi' h1 (h2 hi.1) hv⟩;simp only [went];rw [if_pos ho,gk hi'.1 hi'.2]
theorem Safe.transport {RA:A→A0→Prop} {RB':B→B0→Prop} {Q0:A0→B0→List Int→Prop} {n:Nat} {ta0:T A0} {tb0:T B0} {ws0:List Int} (h:Safe Q0 n ta0 tb0 ws0):∀ {ta:T A} {tb:T B} {ws:List Int},TS p K K0 RA ta ta0→TS p K K0 RB' tb tb0→WR p K K0 ws ws0→
    Safe (fun ra rb ws=>∃ ra0 rb0 ws0,RA ra ra0∧RB' rb rb0∧WR p K K0 ws ws0∧Q0 ra0 rb0 ws0) n ta tb ws:=by
  induction h with
  | over h=>
    intro ta tb ws ha hb hw;cases ha with
    | done ha=>
      cases hb with
      | done hb=>exact .over ⟨_,_,_,ha,hb,hw,h⟩
  | left h1 _ ih=>
    intro ta tb ws ha hb hw;obtain ⟨x,w,e,hn,hw'⟩:=(kh ha hw).2 _ _ h1;cases hb with
    | done hb=>exact .left e (ih hn (.done hb) hw')
  | right h1 _ ih=>
    intro ta tb ws ha hb hw;obtain ⟨x,w,e,hn,hw'⟩:=(kh hb hw).2 _ _ h1;cases ha with
    | done ha=>exact .right e (ih (.done ha) hn hw')
  | both h1 h2 _ _ ih ih'=>
    intro ta tb ws ha hb hw;obtain ⟨x,w,e,hn,hw'⟩:=(kh ha hw).2 _ _ h1;obtain ⟨y,w2,e2,hn2,hw2⟩:=(kh hb hw).2 _ _ h2;exact .both e e2 (ih hn hb hw') (ih' ha hn2 hw2)
end
inductive PrefP {R:Type} (Q:List Int→Prop):Nat→T R→List Int→Prop
  | zero {t:T R} {ws:List Int} (h:Q ws):PrefP Q 0 t ws
  | over {n:Nat} {r:R} {ws:List Int} (h:Q ws):PrefP Q (n+1) (.done r) ws
  | went {n:Nat} {t:T R} {ws w:List Int} {x:Int} (h:Q ws) (h1:went t ws=.went x w) (h2:PrefP Q n (t.next x) w):PrefP Q (n+1) t ws
theorem PrefP.of {R:Type} {chk:List Int→Bool}:∀ {n:Nat} {t:T R} {ws:List Int},prefs chk n t ws=true→PrefP (fun w=>chk w=true) n t ws
  | 0,_,_,h=>.zero h
  | n+1,t,ws,h=>by
    unfold prefs at h
    simp only [Bool.and_eq_true] at h
    obtain ⟨hc,h⟩:=h
    split at h
    · rename_i r e
      rw [jP e]
      exact .over hc
    · cases h
    · rename_i x w e
      exact .went hc e (PrefP.of h)
theorem PrefP.transport {p:Plan} {K K0:Int} {A A0:Type} {RR:A→A0→Prop} {Q0:List Int→Prop} {n:Nat} {t0:T A0} {ws0:List Int} (h:PrefP Q0 n t0 ws0):∀ {t:T A} {ws:List Int},TS p K K0 RR t t0→WR p K K0 ws ws0→PrefP (fun ws=>∃ ws0,WR p K K0 ws ws0∧Q0 ws0) n t ws:=by
  induction h with
  | zero h=>exact fun _ hw=>.zero ⟨_,hw,h⟩
  | over h=>
    intro t ws ht hw;cases ht with
    | done _=>exact .over ⟨_,hw,h⟩
  | went h h1 _ ih=>
    intro t ws ht hw;obtain ⟨x,w,e,hn,hw'⟩:=(kh ht hw).2 _ _ h1;exact .went ⟨_,hw,h⟩ e (ih hn hw')
theorem PrefP.mono {R:Type} {Q Q':List Int→Prop} (hQ:∀ w,Q w→Q' w) {n:Nat} {t:T R} {ws:List Int} (h:PrefP Q n t ws):PrefP Q' n t ws:=by
  induction h with
  | zero h=>exact .zero (hQ _ h)
  | over h=>exact .over (hQ _ h)
  | went h h1 _ ih=>exact .went (hQ _ h) h1 ih
section
variable {p : Plan} (hp : PF p)
include hp
theorem nkNone:keyB p (-1)=false:=fq fun h=>by
  obtain ⟨z1,z2,z3,z4⟩:=bX hp;have:=hp.t1;omega
theorem nkHead:keyB p (D.cU p)=false:=by
  obtain ⟨z1,z2,z3,z4⟩:=bX hp;have:=hp.t1;rw [iW hp];exact fq fun h=>kw
theorem nkState (n:Int):keyB p (D.cH p n)=false:=by
  rw [uG hp]
  split
  · exact fq fun h=>kw
  · exact nkNone hp
theorem nkNext (n:Int):keyB p (D.dw p n)=false:=by
  rw [uX hp]
  split
  · exact fq fun h=>kw
  · exact nkNone hp
theorem nkField (n:Int) {f:Int} (hf:f=1∨f=2):keyB p (D.bf p n f)=false:=by
  rw [mC hp]
  split
  · exact fq fun h=>kw
  · exact nkNone hp
theorem keyField {n:Int} (hi:0≤D.bf p n 0):keyB p (D.bf p n 0)=true:=by
  rw [mC hp] at hi ⊢
  split at hi
  · rename_i hr
    rw [if_pos hr]
    unfold keyB;simp only [Bool.and_eq_true,decide_eq_true_eq];omega
  · omega
theorem nkHaz (t i:Int):keyB p (D.eQ p t i)=false:=by
  obtain ⟨z1,z2,z3,z4⟩:=bX hp;rw [py hp]
  split
  · exact fq fun h=>kw
  · exact nkNone hp
theorem nkCount (t:Int):keyB p (D.dC p t)=false:=by
  by_cases ht:0≤t∧t<p.threads
  · obtain ⟨b1,b2,b3⟩:=cG hp ht
    have hr:=hp.r1;have ht1:=hp.t1;rw [pR hp ht];exact fq fun h=>kw
  · rw [uJ hp,if_neg ht]
    exact nkNone hp
theorem nkRet (t i:Int):keyB p (D.cT p t i)=false:=by
  by_cases ht:(0≤t∧t<p.threads)∧0≤i∧i<p.retire
  · obtain ⟨b1,b2,b3⟩:=cG hp ht.1
    rw [m5 hp ht.1 ht.2]
    exact fq fun h=>kw
  · rw [tD hp,if_neg ht]
    exact nkNone hp
variable {K K0 : Int} (h0 : CR K K0 0 0)
omit hp in
theorem tsRefl {A:Type} (r:A):TS p K K0 (Eq:A→A→Prop) (.done r) (.done r):=.done rfl
theorem tsPop:∀ d,TS p K K0 (Eq:Int→Int→Prop) (D.cB d p) (D.cB d p):=by
  intro d
  induction d with
  | zero=>exact .cut
  | succ d ih=>
    refine TS.actN (nkHead hp) fun x=>?_;show TS p K K0 Eq (D.eI (D.cB d) p x) (D.eI (D.cB d) p x)
    unfold D.eI;refine TS.bif (fun _=>tsRefl _) fun _=>?_;refine TS.actN (nkNext hp _) fun y=>?_
    refine TS.actN (nkHead hp) fun z=>?_;exact TS.bif (fun _=>ih) fun _=>tsRefl _
theorem tsPush:∀ d n,TS p K K0 (Eq:Int→Int→Prop) (D.dU d p n) (D.dU d p n):=by
  intro d
  induction d with
  | zero=>exact fun _=>.cut
  | succ d ih=>
    intro n;refine TS.bif (fun _=>tsRefl _) fun _=>?_;refine TS.actN (nkHead hp) fun x=>?_
    refine TS.actN (nkNext hp _) fun y=>?_;refine TS.actN (nkHead hp) fun z=>?_
    exact TS.bif (fun _=>ih n) fun _=>tsRefl _
theorem tsHeld:∀ d n i,TS p K K0 (Eq:Bool→Bool→Prop) (D.dD d p n i) (D.dD d p n i):=by
  intro d
  induction d with
  | zero=>exact fun _ _=>.cut
  | succ d ih=>
    intro n i;refine TS.bif (fun _=>tsRefl _) fun _=>?_;refine TS.actN (nkHaz hp _ _) fun x=>?_
    exact TS.bif (fun _=>tsRefl _) fun _=>ih _ _
theorem tsHset (t s n:Int):TS p K K0 (Eq:Unit→Unit→Prop) (D.dT p t s n) (D.dT p t s n):=TS.actN (nkHaz hp _ _) fun _=>tsRefl _
theorem tsClear (t:Int):∀ d s,TS p K K0 (Eq:Unit→Unit→Prop) (D.eT d p t s) (D.eT d p t s):=by
  intro d
  induction d with
  | zero=>exact fun _=>.cut
  | succ d ih=>
    intro s;exact TS.bif (fun _=>tsRefl _) fun _=>TS.bind (tsHset hp _ _ _) fun _ _ _=>ih _
theorem tsGuard {at_:Int} (ha:keyB p at_=false) (t s sh:Int):∀ d w,TS p K K0 (Eq:Int→Int→Prop) (D.eF d p t s at_ sh w) (D.eF d p t s at_ sh w):=by
  intro d
  induction d with
  | zero=>exact fun _=>.cut
  | succ d ih=>
    intro w;refine TS.bif (fun _=>tsRefl _) fun _=>TS.bind (tsHset hp _ _ _) fun _ _ _=>?_;refine TS.actN ha fun x=>?_
    exact TS.bif (fun _=>tsRefl _) fun _=>ih _
theorem tsGuardG {at_:Int} (ha:keyB p at_=false) (j:Nat) (t s sh:Int):TS p K K0 (Eq:Int→Int→Prop) (D.fV j p t s at_ sh) (D.fV j p t s at_ sh):=TS.actN ha fun _=>tsGuard hp ha _ _ _ _ _
include h0 in
theorem tsZero {k:Unit→T Int} (hk:TS p K K0 (Eq:Int→Int→Prop) (k ()) (k ())) (n:Int):∀ d f,TS p K K0 (Eq:Int→Int→Prop) (D.dI d p n f k) (D.dI d p n f k):=by
  intro d
  induction d with
  | zero=>exact fun _=>.cut
  | succ d ih=>
    intro f;exact TS.bif (fun _=>hk) fun _=>TS.act0 h0 (ih _)
include h0 in
theorem tsReclaim (j:Nat) (n:Int):TS p K K0 (Eq:Int→Int→Prop) (D.fP j p n) (D.fP j p n):=by
  refine tsZero hp h0 ?_ n j 0;refine TS.actN (nkState hp _) fun x=>?_;refine TS.actN (nkState hp _) fun y=>?_
  exact TS.bif (fun _=>tsRefl _) fun _=>tsPush hp _ _
include h0 in
theorem tsScanned (j:Nat) (t:Int):∀ d s,TS p K K0 (Eq:Int→Int→Prop) (D.cV j d p t s) (D.cV j d p t s):=by
  intro d
  induction d with
  | zero=>exact fun _=>.cut
  | succ d ih=>
    intro s;refine TS.bif (fun _=>tsRefl _) fun _=>?_;refine TS.actN (nkRet hp _ _) fun x=>?_
    refine TS.bif (fun _=>ih _) fun _=>TS.bif (fun _=>ih _) fun _=>TS.bind (tsHeld hp _ _ _) fun b _ e=>?_;subst e
    refine TS.bif (fun _=>ih _) fun _=>?_;have h1:∀ last n,TS p K K0 (Eq:Int→Int→Prop) (D.ez j (D.cV j d) p t last n s) (D.ez j (D.cV j d) p t last n s):=fun last n=>
      TS.actN (nkCount hp _) fun _=>TS.bind (tsReclaim hp h0 _ _) fun _ _ _=>ih _
    refine TS.bif (fun _=>h1 _ _) fun _=>?_;refine TS.actN (nkRet hp _ _) fun y=>?_
    exact TS.actN (nkRet hp _ _) fun _=>h1 _ _
include h0 in
theorem tsScan (j:Nat) (t:Int):TS p K K0 (Eq:Int→Int→Prop) (D.eG j p t) (D.eG j p t):=TS.actN (nkCount hp _) fun _=>tsScanned hp h0 _ _ _ _
theorem tsPut (t n:Int):TS p K K0 (Eq:Int→Int→Prop) (D.iG p t n) (D.iG p t n):=by
  refine TS.actN (nkCount hp _) fun x=>?_;refine TS.bif (fun _=>tsRefl _) fun _=>?_
  exact TS.actN (nkRet hp _ _) fun _=>TS.actN (nkCount hp _) fun _=>tsRefl _
theorem tsGrant (n k:Int):TS p K K0 (Eq:Grant→Grant→Prop) (D.eV p n k) (D.eV p n k):=TS.actN (nkState hp _) fun _=>TS.actN (nkState hp _) fun _=>tsRefl _
include h0 in
theorem tsNew (j:Nat) (t k:Int):TS p K K0 (Eq:Grant→Grant→Prop) (D.ee j p t k) (D.ee j p t k):=by
  refine TS.bind (tsPop hp _) fun n _ e=>?_;subst e
  refine TS.bif (fun _=>tsGrant hp _ _) fun _=>TS.bind (tsScan hp h0 _ _) fun _ _ _=>TS.bind (tsPop hp _) fun m _ e=>?_;subst e
  exact TS.bif (fun _=>tsRefl _) fun _=>tsGrant hp _ _
include h0 in
theorem tsRetire (j:Nat) (t n:Int):TS p K K0 (Eq:Int→Int→Prop) (D.fT j p t n) (D.fT j p t n):=by
  refine TS.actN (nkState hp _) fun x=>TS.actN (nkState hp _) fun _=>?_;refine TS.bind (tsPut hp _ _) fun k _ e=>?_
  subst e;refine TS.bif (fun _=>tsRefl _) fun _=>TS.bind (tsScan hp h0 _ _) fun _ _ _=>TS.bind (tsPut hp _ _) fun m _ e=>?_;subst e
  exact TS.bif (fun _=>tsRefl _) fun _=>tsRefl _
/-! ### Lists -/
omit hp in
def RW (p:Plan) (K K0:Int) (f f0:Walk):Prop:=∃ (tn t cell place cur next:Int) (there:Bool),f=⟨⟨p,tn,t⟩,cell,K,place,cur,next,there⟩∧f0=⟨⟨p,tn,t⟩,cell,K0,place,cur,next,there⟩∧keyB p place=false∧keyB p cell=false
theorem tsWset {k k0:Unit→T Walk} {f f0:Walk} (hf:RW p K K0 f f0) (s n:Int) (hk:TS p K K0 (RW p K K0) (k ()) (k0 ())):TS p K K0 (RW p K K0) (D.eE f s n k) (D.eE f0 s n k0):=by
  obtain ⟨tn,t,cell,place,cur,next,there,rfl,rfl,h1,h2⟩:=hf;exact TS.bind (tsHset hp _ _ _) fun _ _ _=>hk
include h0 in
theorem tsStep (j:Nat):∀ d f f0,RW p K K0 f f0→TS p K K0 (RW p K K0) (D.cz j d f) (D.cz j d f0):=by
  intro d
  induction d with
  | zero=>exact fun _ _ _=>.cut
  | succ d ih=>
    rintro f f0 ⟨tn,t,cell,place,cur,next,there,rfl,rfl,h1,h2⟩;have hanew:∀ pl cu nx th,TS p K K0 (RW p K K0) (D.eD j (D.cz j d) ⟨⟨p,tn,t⟩,cell,K,pl,cu,nx,th⟩) (D.eD j (D.cz j d) ⟨⟨p,tn,t⟩,cell,K0,pl,cu,nx,th⟩):=fun pl cu nx th=>
      TS.bind (tsGuardG hp h2 _ _ _ _) fun w _ e=>by
        subst e;exact ih _ _ ⟨tn,t,cell,cell,w,0,false,rfl,rfl,h2,h2⟩
    refine TS.bif (fun _=>.done ⟨tn,t,cell,place,cur,next,false,rfl,rfl,h1,h2⟩) fun _=>?_;refine TS.actN (nkField hp _ (.inr rfl)) fun nx=>?_
    refine tsWset hp ⟨tn,t,cell,place,cur,next,there,rfl,rfl,h1,h2⟩ _ _ ?_;refine TS.actN (nkField hp _ (.inr rfl)) fun nx2=>?_;refine TS.bif (fun _=>hanew _ _ _ _) fun _=>?_
    refine TS.act (fun _=>.inl rfl) (fun _=>by unfold VR; split; exact h0; rfl) fun hi x x0 hx=>?_;refine TS.actN h1 fun w=>?_
    refine TS.bif (fun _=>hanew _ _ _ _) fun _=>?_;refine TS.bif (fun _=>?_) fun _=>?_
    · -- a marked node
      refine TS.actN h1 fun y=>?_;refine TS.bif (fun _=>hanew _ _ _ _) fun _=>?_
      refine TS.bind (tsRetire hp h0 _ _ _) fun _ _ _=>?_;refine tsWset hp ⟨tn,t,cell,place,_,_,there,rfl,rfl,h1,h2⟩ _ _ ?_
      exact ih _ _ ⟨tn,t,cell,place,_,_,there,rfl,rfl,h1,h2⟩
    · have hge:decide (x≥K)=decide (x0≥K0)∧(x==K)=(x0==K0):=by
        have hc:CR K K0 x x0:=by
          have hkey:=keyField hp (n:=D.aV cur) hi;have hx':VR p K K0 (D.bf p (D.aV cur) 0) x x0:=hx;unfold VR at hx'
          rw [if_pos hkey] at hx'
          exact hx'
        refine ⟨?_,?_⟩
        · have:=hc.ge
          by_cases e:K≤x
          · rw [decide_eq_true (show x≥K from e),decide_eq_true (show x0≥K0 from this.1 e)]
          · rw [decide_eq_false (show ¬ x≥K from e),decide_eq_false (show ¬ x0≥K0 from fun h=>e (this.2 h))]
        · have:=hc.eq
          by_cases e:x=K
          · rw [beq_iff_eq.2 e,beq_iff_eq.2 (this.1 e)]
          · rw [beq_eq_false_iff_ne.2 e,beq_eq_false_iff_ne.2 fun h=>e (this.2 h)]
      show TS p K K0 (RW p K K0) (bif decide (x≥K) then _ else _) (bif decide (x0≥K0) then _ else _)
      rw [hge.1]
      refine TS.bif (fun _=>.done ⟨tn,t,cell,place,cur,nx,x0==K0,?_,rfl,h1,h2⟩) fun _=>?_
      · show (⟨⟨p,tn,t⟩,cell,K,place,cur,nx,x==K⟩:Walk)=_
        rw [hge.2]
      · refine tsWset hp ⟨tn,t,cell,place,cur,nx,there,rfl,rfl,h1,h2⟩ _ _ ?_
        refine tsWset hp ⟨tn,t,cell,place,cur,nx,there,rfl,rfl,h1,h2⟩ _ _ ?_;exact ih _ _ ⟨tn,t,cell,_,nx,nx,there,rfl,rfl,nkField hp _ (.inr rfl),h2⟩
include h0 in
theorem tsFind (j:Nat) (tn t:Int) {cell:Int} (hc:keyB p cell=false):TS p K K0 (RW p K K0) (D.fX j (D.cz j j) ⟨p,tn,t⟩ cell K) (D.fX j (D.cz j j) ⟨p,tn,t⟩ cell K0):=
  TS.bind (tsGuardG hp hc _ _ _ _) fun w _ e=>by
    subst e;exact tsStep hp h0 j j _ _ ⟨tn,t,cell,cell,w,0,false,rfl,rfl,hc,hc⟩
theorem tsLeave (j:Nat) (tn t:Int) (r:Res):TS p K K0 (Eq:Res→Res→Prop) (D.dJ j ⟨p,tn,t⟩ r) (D.dJ j ⟨p,tn,t⟩ r):=TS.bind (tsClear hp _ _ _) fun _ _ _=>tsRefl _
include h0 in
theorem tsLput (j:Nat) (tn t n:Int) {cell:Int} (hc:keyB p cell=false):∀ d,TS p K K0 (Eq:Res→Res→Prop) (D.eJ j d ⟨p,tn,t⟩ cell K n) (D.eJ j d ⟨p,tn,t⟩ cell K0 n):=by
  intro d
  induction d with
  | zero=>exact .cut
  | succ d ih=>
    refine TS.bind (tsFind hp h0 j tn t hc) ?_;rintro f f0 ⟨tn',t',cell',place,cur,next,there,rfl,rfl,h1,h2⟩;refine TS.bif (fun _=>?_) fun _=>?_
    · exact TS.bind (tsClear hp _ _ _) fun _ _ _=>TS.bind (tsReclaim hp h0 _ _) fun _ _ _=>tsRefl _
    · refine TS.actN (nkField hp _ (.inr rfl)) fun _=>?_
      refine TS.actN h1 fun x=>?_;exact TS.bif (fun _=>ih) fun _=>tsLeave hp _ _ _ _
include h0 in
theorem tsAdd (j:Nat) (tn t v:Int) {cell:Int} (hc:keyB p cell=false):TS p K K0 (Eq:Res→Res→Prop) (D.dm j ⟨p,tn,t⟩ cell K v) (D.dm j ⟨p,tn,t⟩ cell K0 v):=by
  refine TS.bind (tsNew hp h0 _ _ _) fun g _ e=>?_;subst e
  refine TS.bif (fun _=>tsRefl _) fun _=>?_;refine TS.act (fun _=>.inr rfl) (fun hi=>?_) fun _ _ _ _=>?_
  · unfold VR
    rw [if_pos (keyField hp hi)]
    exact .inl ⟨rfl,rfl⟩
  refine TS.actN (nkField hp _ (.inl rfl)) fun _=>?_;exact tsLput hp h0 j tn t _ hc _
include h0 in
theorem tsDel (j:Nat) (tn t:Int) {cell:Int} (hc:keyB p cell=false):∀ d,TS p K K0 (Eq:Res→Res→Prop) (D.dK j d ⟨p,tn,t⟩ cell K) (D.dK j d ⟨p,tn,t⟩ cell K0):=by
  intro d
  induction d with
  | zero=>exact .cut
  | succ d ih=>
    refine TS.bind (tsFind hp h0 j tn t hc) ?_;rintro f f0 ⟨tn',t',cell',place,cur,next,there,rfl,rfl,h1,h2⟩;refine TS.bif (fun _=>tsLeave hp _ _ _ _) fun _=>?_;refine TS.actN (nkField hp _ (.inl rfl)) fun v=>?_
    refine TS.actN (nkField hp _ (.inr rfl)) fun x=>?_;refine TS.bif (fun _=>ih) fun _=>?_
    refine TS.actN h1 fun y=>?_;refine TS.bif (fun _=>?_) fun _=>?_
    · exact TS.bind (tsRetire hp h0 _ _ _) fun _ _ _=>tsLeave hp _ _ _ _
    · exact TS.bind (TS.bind (tsGuardG hp h2 _ _ _ _) fun w _ e=>by
        subst e;exact tsStep hp h0 j j _ _ ⟨tn',t',cell',cell',w,0,false,rfl,rfl,h2,h2⟩) fun _ _ _=>tsLeave hp _ _ _ _
end
def pr:Plan:=⟨6,2,7,1,1,9⟩
theorem prF:PF pr:=BF (by decide +kernel)
theorem qK:D.aM pr=26:=by decide +kernel
theorem xw:D.bG pr=56:=by decide +kernel
def lr0:List Int:=[1,0,0,0,0,0,0,0,0,0,0,0,0,0,0,0,0,0,0,0,0,0,0,0,0,0,0,2,0,0,0,0,3,0,0,0,0,4,0,0,0,0,5,0,0,0,0,6,0,0,0,0,0,0,0,0]
def lrB (K v:Int):List Int:=[6291457,0,4,0,0,0,0,0,0,0,0,0,0,0,0,0,0,0,0,0,0,0,0,0,0,0,1,3,0,0,0,9663676416,3,K,v,0,0,4,0,0,0,0,5,0,0,0,0,6,0,0,0,0,0,0,0,0]
def lrC (K v:Int):List Int:=[6291458,0,2,0,0,0,0,0,0,0,0,0,0,0,0,0,0,0,0,0,0,0,0,0,0,0,9663676416,2,K,v,0,1,3,0,0,0,0,4,0,0,0,0,5,0,0,0,0,6,0,0,0,0,0,0,0,0]
def lrA (K v t:Int):T Res:=D.dm 4001 (⟨pr,0,t⟩:Seat) 2 K v
def lrD (K t:Int):T Res:=D.dK 4001 4001 (⟨pr,0,t⟩:Seat) 2 K
def finA (ra rb:Res) (ws:List Int):Bool:=
  let v:=bif rd ws 2==4 then rd ws 34 else rd ws 29
  (v==1&&ra==⟨0,0⟩&&rb==⟨7,0⟩)||(v==2&&rb==⟨0,0⟩&&ra==⟨7,0⟩)
def finD (v:Int) (ra rb:Res) (ws:List Int):Bool:=((ra==⟨0,v⟩&&rb==⟨6,0⟩)||(ra==⟨6,0⟩&&rb==⟨0,v⟩))&&rd ws 2==0
def own (t j:Int):Bool:=(decide (4+t * 3≤j)&&decide (j<7+t * 3))||(decide (10+t * 8≤j)&&decide (j<18+t * 8))
def addsW (K:Int):Option (List (List Int)):=exploreP (own 0) (own 1) finA 100 [⟨lrA K 1 0,lrA K 2 1,[],[],lr0⟩] []
def delsW (K v:Int) (ws:List Int):Bool:=(exploreP (own 0) (own 1) (finD v) 100 [⟨lrD K 0,lrD K 1,[],[],ws⟩] []).isSome
theorem FK:addsW 0=some [lrB 0 2,lrC 0 1,lrC 0 2,lrB 0 1]:=by decide +kernel
theorem Fv:addsW 1=some [lrB 1 2,lrC 1 1,lrC 1 2,lrB 1 1]:=by decide +kernel
theorem D6:delsW 0 1 (lrB 0 1)=true:=by decide +kernel
theorem De:delsW 0 2 (lrB 0 2)=true:=by decide +kernel
theorem Dh:delsW 0 1 (lrC 0 1)=true:=by decide +kernel
theorem Df:delsW 0 2 (lrC 0 2)=true:=by decide +kernel
theorem Dk:delsW 1 1 (lrB 1 1)=true:=by decide +kernel
theorem Dd:delsW 1 2 (lrB 1 2)=true:=by decide +kernel
theorem D0:delsW 1 1 (lrC 1 1)=true:=by decide +kernel
theorem Di:delsW 1 2 (lrC 1 2)=true:=by decide +kernel
end Go.Proofs.YtikjpdpgdmbdpaaGreat
