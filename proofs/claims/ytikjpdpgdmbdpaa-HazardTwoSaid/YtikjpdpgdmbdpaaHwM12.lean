/- Some of our texts, one behind the other. -/
import Derived.Test.YtikjpdpgdmbdpaaHwM10
import Derived.Test.YtikjpdpgdmbdpaaHwLawHT
import Derived.WalkKit
import Derived.ProofKit
import Derived.OpenShut
import Derived.ShutString
import Derived.ChangeOld
import Derived.Below
import Derived.Carry
import Derived.SizedLaws
import Derived.Deep.Slices
import Derived.Deep.Fields
import Derived.ChangeSame
import Derived.Test.YtikjpdpgdmbdpaaRows
import Derived.ChangeSlices
import Derived.Test.YtikjpdpgdmbdpaaHwM4
import Derived.Test.YtikjpdpgdmbdpaaHwM3
set_option linter.all false
/- HazardTwo: what the walk found answers as the law says. -/
set_option linter.unusedVariables false
namespace Go.Proofs.Ytikjpdpgdmbdpaa
open Go.RowKit
def ph:Plan:=⟨4,2,7,0,1,9⟩

theorem ph_A:D.plan_Plan_Field ph 3 0=40:=by decide +kernel

theorem ph_0:D.plan_Plan_Hazard ph 0 1=2:=by decide +kernel

theorem ph_1:D.plan_Plan_Hazard ph 1 2=6:=by decide +kernel

theorem awakeT:D.cubiclelaw10_awake 2000=some true:=by decide +kernel

theorem namedT {w sh:Int} (h0:0≤w) (h1:w<1099511627776) (h:0≤sh∧sh<3):D.cubicleref10_Named w sh=w / 2 ^ sh.toNat - 1:=by
  obtain ⟨h2,h3,h4⟩:=shr_eq h0 h;unfold D.cubicleref10_Named;rw [h2,wrap_id (x:=w / 2 ^ sh.toNat) (by omega) (by omega),wrap_id (by omega) (by omega)]

theorem laidT:(D.cubiclelaw09_Laid 2000 ph).map (fun M=>(M.ws.length,rd M.ws 2,rd M.ws 6))=some (43,0,0):=by decide +kernel

/-- A guard of this law. -/
structure GT (tn sl h:Int):Prop where
  t:0≤tn∧tn<ph.threads
  s:0≤sl∧sl<3
  at_:D.plan_Plan_Hazard ph tn sl=h

theorem goes {tn sl h:Int} (g:GT tn sl h) {sh w:Int} (hw0:0≤w) (hw1:w<1099511627776) (hsh:0≤sh∧sh<3) (hn:¬ w / 2 ^ sh.toNat<1) (k:Nat) :
    D.hazard_guard (k+1) ph tn sl 40 sh w=.act 1 h (w / 2 ^ sh.toNat) 0 (fun _=>.act 0 40 0 0 (fun x=>bif x==w then .done w else D.hazard_guard k ph tn sl 40 sh x)):=by
  obtain ⟨h2,h3,h4⟩:=shr_eq hw0 hsh;show D.hazard_guard_body (D.hazard_guard k) ph tn sl 40 sh w=_
  unfold D.hazard_guard_body;rw [h2,wrap_id (x:=w / 2 ^ sh.toNat) (by omega) (by omega),wrap_id (x:=w / 2 ^ sh.toNat - 1) (by omega) (by omega),show decide (w / 2 ^ sh.toNat - 1<0)=false from by simp; omega]
  unfold D.hazard_Set;rw [word_eq (by omega) (by omega),g.at_,show w / 2 ^ sh.toNat - 1+1=w / 2 ^ sh.toNat from by omega]
  rfl

theorem stops {tn sl sh w:Int} (hw0:0≤w) (hw1:w<1099511627776) (hsh:0≤sh∧sh<3) (hn:w / 2 ^ sh.toNat<1) (k:Nat):D.hazard_guard (k+1) ph tn sl 40 sh w=.done w:=by
  obtain ⟨h2,h3,h4⟩:=shr_eq hw0 hsh;show D.hazard_guard_body (D.hazard_guard k) ph tn sl 40 sh w=_
  unfold D.hazard_guard_body;rw [h2,wrap_id (x:=w / 2 ^ sh.toNat) (by omega) (by omega),wrap_id (x:=w / 2 ^ sh.toNat - 1) (by omega) (by omega),show decide (w / 2 ^ sh.toNat - 1<0)=true from by simp; omega]
  rfl

/-- How a guard stands, m steps ahead of its end. -/
def GA (tn sl h sh w:Int) (m:Nat) (ws:List Int) (t:T Int):Prop:=
  (m=0∧t=.done w∧rd ws h=w / 2 ^ sh.toNat)∨
  (rd ws h=0∧t=.act 0 40 0 0 (fun x=>D.hazard_guard 2001 ph tn sl 40 sh x)∧((w / 2 ^ sh.toNat<1∧m=1)∨(¬ w / 2 ^ sh.toNat<1∧m=3)))∨
  (∃ R:Int→T Int,m=2∧¬ w / 2 ^ sh.toNat<1∧t=.act 1 h (w / 2 ^ sh.toNat) 0 (fun _=>.act 0 40 0 0 (fun x=>bif x==w then .done w else R x)))∨
  (∃ R:Int→T Int,m=1∧¬ w / 2 ^ sh.toNat<1∧rd ws h=w / 2 ^ sh.toNat∧t=.act 0 40 0 0 (fun x=>bif x==w then .done w else R x))

theorem GA.keep {tn sl h sh w:Int} {m:Nat} {ws ws':List Int} {t:T Int} (g:GA tn sl h sh w m ws t) (e:rd ws' h=rd ws h):GA tn sl h sh w m ws' t:=by
  unfold GA at g ⊢
  rw [e]
  exact g

theorem GA.le {tn sl h sh w:Int} {m:Nat} {ws:List Int} {t:T Int} (g:GA tn sl h sh w m ws t):m≤3:=by
  rcases g with ⟨h,_⟩ | ⟨_,_,⟨_,h⟩ | ⟨_,h⟩⟩ | ⟨_,h,_⟩ | ⟨_,h,_⟩ <;> omega

/-- A step of a guard. -/
theorem GA.step {tn sl h sh w:Int} (hg:GT tn sl h) (hw0:0≤w) (hw1:w<1099511627776) (hsh:0≤sh∧sh<3) (hh:0≤h∧h<40) {fu d m:Nat} {M:Mem} {t:T Int} (hl:M.ws.length=43) (hA:rd M.ws 40=w) (g:GA tn sl h sh w m M.ws t) (hd:m≤d) :
    ∃ m' d' t' b M',stepG fu (d,t) M cap0=some ((d',t'),b,M')∧GA tn sl h sh w m' M'.ws t'∧m'=m - 1∧m'≤d'∧M'.ws.length=43∧∀ j,0≤j→j≠h→rd M'.ws j=rd M.ws j:=by
  obtain ⟨h2,h3,h4⟩:=shr_eq hw0 hsh;have hget:getI M.ws 40=some w:=by rw [getI_rd (by omega) (by omega),hA]
  have hr0:∀ x,acted 0 40 0 0 x M.ws=M.ws:=fun x=>by simp [acted]
  rcases g with ⟨rfl,rfl,hz⟩ | ⟨hz,rfl,hm⟩ | ⟨R,rfl,hn,rfl⟩ | ⟨R,rfl,hn,hz,rfl⟩
  · refine ⟨0,d,.done w,false,M,?_,.inl ⟨rfl,rfl,hz⟩,rfl,by omega,hl,fun _ _ _=>rfl⟩
    unfold stepG
    rfl
  · obtain ⟨d,rfl⟩:∃ q,d=q+1:=⟨d - 1,by omega⟩
    obtain ⟨c,hc⟩:=stepG_ok (fu:=fu) (d:=d) (M:=M) (op:=0) (a:=0) (b:=0) (k:=fun x=>D.hazard_guard 2001 ph tn sl 40 sh x) (by omega) hget
    rw [hr0] at hc
    rcases hm with ⟨hn,rfl⟩ | ⟨hn,rfl⟩
    · rw [stops hw0 hw1 hsh hn 2000] at hc
      exact ⟨0,d,_,_,_,hc,.inl ⟨rfl,rfl,by show rd M.ws h=_; rw [hz]; omega⟩,rfl,by omega,hl,fun _ _ _=>rfl⟩
    · rw [goes hg hw0 hw1 hsh hn 2000] at hc
      exact ⟨2,d,_,_,_,hc,.inr (.inr (.inl ⟨_,rfl,hn,rfl⟩)),rfl,by omega,hl,fun _ _ _=>rfl⟩
  · obtain ⟨d,rfl⟩:∃ q,d=q+1:=⟨d - 1,by omega⟩
    obtain ⟨c,hc⟩:=stepG_ok (fu:=fu) (d:=d) (M:=M) (op:=1) (at_:=h) (a:=w / 2 ^ sh.toNat) (b:=0) (k:=fun _=>.act 0 40 0 0 (fun x=>bif x==w then .done w else R x)) (by omega) (getI_rd hh.1 (by omega))
    rw [show acted 1 h (w / 2 ^ sh.toNat) 0 (rd M.ws h) M.ws=M.ws.set h.toNat (w / 2 ^ sh.toNat) from by simp [acted]] at hc
    have hr:∀ j,0≤j→rd (M.ws.set h.toNat (w / 2 ^ sh.toNat)) j=if j=h then w / 2 ^ sh.toNat else rd M.ws j:=fun j hj=>rd_set hh.1 (by omega) hj
    refine ⟨1,d,_,_,_,hc,.inr (.inr (.inr ⟨R,rfl,hn,?_,rfl⟩)),rfl,by omega,by simpa using hl,fun j j0 j1=>?_⟩
    · show rd (M.ws.set h.toNat (w / 2 ^ sh.toNat)) h=_
      rw [hr h hh.1,if_pos rfl]
    · show rd (M.ws.set h.toNat (w / 2 ^ sh.toNat)) j=_
      rw [hr j j0,if_neg j1]
  · obtain ⟨d,rfl⟩:∃ q,d=q+1:=⟨d - 1,by omega⟩
    obtain ⟨c,hc⟩:=stepG_ok (fu:=fu) (d:=d) (M:=M) (op:=0) (a:=0) (b:=0) (k:=fun x=>bif x==w then .done w else R x) (by omega) hget
    rw [hr0,show (w==w)=true from by simp] at hc
    exact ⟨0,d,_,_,_,hc,.inl ⟨rfl,rfl,hz⟩,rfl,by omega,hl,fun _ _ _=>rfl⟩

/-- Ahead of step i, of L picks. -/
structure TwoI (sh w:Int) (L i:Nat) (x:Int × Mem × ((Nat × T Int) × (Nat × T Int))):Prop where
  at_:x.1=(i:Int)
  len:x.2.1.ws.length=43
  word:rd x.2.1.ws 40=w
  g:∃ m n,GA 0 1 2 sh w m x.2.1.ws x.2.2.1.2∧GA 1 2 6 sh w n x.2.1.ws x.2.2.2.2∧m≤x.2.2.1.1∧n≤x.2.2.2.1∧(L≤i→(m=0∨m+((i+1) / 2 - (L+1) / 2)≤3)∧(n=0∨n+(i / 2 - L / 2)≤3))

theorem g0:GT 0 1 2:=⟨⟨by omega,show (0:Int)<2 by omega⟩,by omega,ph_0⟩

theorem g1:GT 1 2 6:=⟨⟨by omega,show (1:Int)<2 by omega⟩,by omega,ph_1⟩

section
variable {sh w : Int} {L i : Nat} {x : Int × Mem × ((Nat × T Int) × (Nat × T Int))} (hw0 : 0 ≤ w) (hw1 : w < 1099511627776) (hsh : 0 ≤ sh ∧ sh < 3) (h : TwoI sh w L i x)
include hw0 hw1 hsh h
theorem TwoI.left (hp:L≤i→i % 2=0):∃ z:(Nat × T Int) × Bool × Mem,stepG 2000 x.2.2.1 x.2.1 cap0=some z∧TwoI sh w L (i+1) (((i:Nat):Int)+1,z.2.2,(z.1,x.2.2.2)):=by
  obtain ⟨x,M,⟨da,ta⟩,⟨db,tb⟩⟩:=x;obtain ⟨rfl,hl,hA,m,n,ga,gb,hm,hn,hc⟩:=h;simp only at hl hA ga gb hm hn
  obtain ⟨m',d',t',b,M',hs,ga',hm',hd',hl',hk⟩:=ga.step (fu:=2000) g0 hw0 hw1 hsh (by omega) hl hA hm;refine ⟨_,hs,by simp,hl',by rw [hk 40 (by omega) (by omega)]; exact hA,m',n,ga',gb.keep (hk 6 (by omega) (by omega)),hd',hn,fun hi=>?_⟩
  have:=ga.le; have:=gb.le
  by_cases e:L≤i
  · have:=hc e; have:=hp e
    omega
  · omega

theorem TwoI.right (hp:L≤i→i % 2=1):∃ z:(Nat × T Int) × Bool × Mem,stepG 2000 x.2.2.2 x.2.1 cap0=some z∧TwoI sh w L (i+1) (((i:Nat):Int)+1,z.2.2,(x.2.2.1,z.1)):=by
  obtain ⟨x,M,⟨da,ta⟩,⟨db,tb⟩⟩:=x;obtain ⟨rfl,hl,hA,m,n,ga,gb,hm,hn,hc⟩:=h;simp only at hl hA ga gb hm hn
  obtain ⟨n',d',t',b,M',hs,gb',hn',hd',hl',hk⟩:=gb.step (fu:=2000) g1 hw0 hw1 hsh (by omega) hl hA hn;refine ⟨_,hs,by simp,hl',by rw [hk 40 (by omega) (by omega)]; exact hA,m,n',ga.keep (hk 2 (by omega) (by omega)),gb',hm,hd',fun hi=>?_⟩
  have:=ga.le; have:=gb.le
  by_cases e:L≤i
  · have:=hc e; have:=hp e
    omega
  · omega

end
theorem pure_HazardTwo (w shift:Int) (picks:List Bool) (hw:0≤w∧w≤18446744073709551615) (hs:0≤shift∧shift≤255):∃ fu,Wk.D.cubiclelaw10_HazardTwo fu w shift picks=some true:=by
  refine ⟨2000,?_⟩;unfold Wk.D.cubiclelaw10_HazardTwo;rw [awakeT];simp only [Option.bind_some,Bool.not_true,cond_false];cases hl:decide ((picks.length:Int) > 20)
  case true=>rfl
  simp only [decide_eq_false_iff_not] at hl
  simp only [cond_false]
  rw [show (⟨4,2,7,0,1,9⟩:Plan)=ph from rfl,ph_A,ph_0,ph_1]
  obtain ⟨M,hM,hM1,hM2,hM3⟩:∃ M,D.cubiclelaw09_Laid 2000 ph=some M∧M.ws.length=43∧rd M.ws 2=0∧rd M.ws 6=0:=by
    have:=laidT;cases h:D.cubiclelaw09_Laid 2000 ph with
    | none=>rw [h] at this; cases this
    | some M=>
      rw [h] at this
      simp only [Option.map_some,Option.some.injEq,Prod.mk.injEq] at this
      exact ⟨M,rfl,this.1,this.2.1,this.2.2⟩
  rw [hM]
  simp only [Option.bind_some,Cap_eq]
  obtain ⟨sh,hsh,hsh2⟩:∃ s:Int,IntKind.i64.wrap (shift.tmod 3)=s∧0≤s∧s<3:=by
    rw [Int.tmod_eq_emod_of_nonneg hs.1,wrap_small (by omega) (by omega)]
    exact ⟨_,rfl,by omega,by omega⟩
  obtain ⟨v,hv,hv0,hv1⟩:∃ v:Int,w.tmod 1099511627776=v∧0≤v∧v<1099511627776:=by
    rw [Int.tmod_eq_emod_of_nonneg hw.1]
    exact ⟨_,rfl,by omega,by omega⟩
  obtain ⟨h2,h3,h4⟩:=shr_eq hv0 hsh2;rw [hsh,hv];obtain ⟨c,hc⟩:=Do_ok (fu:=2000) (M:=M) (op:=1) (a:=v) (b:=0) (by omega) (getI_rd (ws:=M.ws) (i:=40) (by omega) (by omega));rw [show acted 1 40 v 0 (rd M.ws 40) M.ws=M.ws.set 40 v from by simp [acted]] at hc
  rw [hc]
  have hr:∀ j,0≤j→rd (M.ws.set 40 v) j=if j=40 then v else rd M.ws j:=fun j hj=>rd_set (i:=40) (by omega) (by omega) hj
  rw [show guardI (decide (0≤sh))=some () from by rw [show decide (0≤sh)=true from by simpa using hsh2.1]; rfl]
  simp only [Option.bind_some]
  rw [wrap_small (x:=(picks.length:Int)+8) (by omega) (by omega)]
  have start:∀ {tn sl h:Int},rd M.ws h=0→0≤h→h≠40→∃ m,GA tn sl h sh v m (M.ws.set 40 v) (D.hazard_Guard (2000+1) ph tn sl 40 sh)∧m≤3:=by
    intro tn sl h hz h0 hne;have hz':rd (M.ws.set 40 v) h=0:=by rw [hr h h0,if_neg hne]; exact hz
    by_cases e:v / 2 ^ sh.toNat<1
    · exact ⟨1,.inr (.inl ⟨hz',rfl,.inl ⟨e,rfl⟩⟩),by omega⟩
    · exact ⟨3,.inr (.inl ⟨hz',rfl,.inr ⟨e,rfl⟩⟩),by omega⟩
  obtain ⟨m0,ga,hm0⟩:=start (tn:=0) (sl:=1) (h:=2) hM2 (by omega) (by omega);obtain ⟨n0,gb,hn0⟩:=start (tn:=1) (sl:=2) (h:=6) hM3 (by omega) (by omega);refine loop_inv (fun o=>o=some true) (TwoI sh v picks.length) (picks.length+8) 2000 ⟨rfl,by simpa using hM1,by rw [hr 40 (by omega),if_pos rfl],m0,n0,ga,gb,by simp only; omega,by simp only; omega,fun hi=>?_⟩ (by omega) ?_ ?_
  · omega
  · rintro i ⟨x,M1,pa,pb⟩ hi hI
    have hx:x=(i:Int):=hI.at_;subst hx;simp only;rw [show decide ((i:Int)<(picks.length:Int)+8)=true from by simp; omega]
    simp only [cond_true]
    have hL:(picks.length+8:Nat)≤28:=by omega
    have hwr:IntKind.i64.wrap ((i:Int)+1)=(i:Int)+1:=wrap_small (by omega) (by omega)
    have zero:(picks.length≤i→i % 2=0)→∃ x',(Option.bind (stepG 2000 pa M1 cap0) (fun (x62:(Nat × T Int) × Bool × Mem)=>(some (Lp.next ((IntKind.i64.wrap ((i:Int)+1)),x62.2.2,(x62.1,pb))):Option (Lp (Int × Mem × ((Nat × T Int) × (Nat × T Int))) Bool))))=some (Lp.next x')∧TwoI sh v picks.length (i+1) x':=by
      intro hp;obtain ⟨z,hz,hI'⟩:=hI.left hv0 hv1 hsh2 hp;simp only at hz
      rw [hz]
      exact ⟨_,rfl,by rw [hwr]; exact hI'⟩
    have one:(picks.length≤i→i % 2=1)→∃ x',(Option.bind (stepG 2000 pb M1 cap0) (fun (x72:(Nat × T Int) × Bool × Mem)=>(some (Lp.next ((IntKind.i64.wrap ((i:Int)+1)),x72.2.2,(pa,x72.1))):Option (Lp (Int × Mem × ((Nat × T Int) × (Nat × T Int))) Bool))))=some (Lp.next x')∧TwoI sh v picks.length (i+1) x':=by
      intro hp;obtain ⟨z,hz,hI'⟩:=hI.right hv0 hv1 hsh2 hp;simp only at hz
      rw [hz]
      exact ⟨_,rfl,by rw [hwr]; exact hI'⟩
    by_cases e:i<picks.length
    · rw [show decide ((i:Int)<(picks.length:Int))=true from by simpa using e,getI_nat e]
      simp only [cond_true,Option.bind_some]
      cases picks[i]
      · exact zero fun h=>by omega
      · exact one fun h=>by omega
    · rw [show decide ((i:Int)<(picks.length:Int))=false from by simpa using e]
      simp only [cond_false,Option.bind_some]
      rw [Int.tmod_eq_emod_of_nonneg (show (0:Int)≤(i:Int) by omega)]
      by_cases e2:i % 2=0
      · rw [show (i:Int) % 2=0 by omega]
        exact zero fun _=>e2
      · rw [show (i:Int) % 2=1 by omega]
        exact one fun _=>by omega
  · rintro ⟨x,M1,⟨da,ta⟩,⟨db,tb⟩⟩ ⟨hx,hl1,hA1,m,n,ga,gb,hm,hn,hcc⟩
    simp only at hx hl1 hA1 ga gb hm hn
    subst hx;simp only;rw [show decide (((picks.length+8:Nat):Int)<(picks.length:Int)+8)=false from by simp]
    refine ⟨_,rfl,?_⟩;have hmn:=hcc (by omega);obtain rfl:m=0:=by omega
    obtain rfl:n=0:=by omega
    have dn:∀ {tn sl h:Int} {t:T Int},GA tn sl h sh v 0 M1.ws t→t=.done v∧rd M1.ws h=v / 2 ^ sh.toNat:=by
      intro tn sl h t g
      rcases g with ⟨_,ht,hz⟩ | ⟨_,_,⟨_,hm⟩ | ⟨_,hm⟩⟩ | ⟨_,hm,_⟩ | ⟨_,hm,_⟩
      · exact ⟨ht,hz⟩
      all_goals cases hm
    obtain ⟨rfl,hza⟩:=dn ga;obtain ⟨rfl,hzb⟩:=dn gb;simp only [cond_false];rw [namedT hv0 hv1 hsh2,show v / 2 ^ sh.toNat - 1+1=v / 2 ^ sh.toNat from by omega,wrap_id (x:=v / 2 ^ sh.toNat) (by omega) (by omega),wrapu_id (x:=v / 2 ^ sh.toNat) (by omega) (by omega)]
    rw [Peek_eq (M:=M1) (i:=2) (by omega) (by omega),Peek_eq (M:=M1) (i:=6) (by omega) (by omega),hza,hzb]
    simp only [D.prog_Prog_uint64_Over,T.res,T.isDone,Option.bind_some,cond_true,beq_self_eq_true]

end Go.Proofs.Ytikjpdpgdmbdpaa

/- A law's row from what its walk hands back: arguments opened. -/
namespace Go.Proofs.Ytikjpdpgdmbdpaa
open Go.ChangeShapes Go.WideShapes Go.RowKit Go.Deep Go.ChangeAt
section
variable {H : Type} {enc : TypeId × Value → H} {P : Program} {w : World} {base : Nat} {spare : Nat → Bool} {held : Bool}
end
theorem laidOut:laidOutB Try.prog=true:=by kernel_rfl

end Go.Proofs.Ytikjpdpgdmbdpaa

/- The program's order of start: its words, told once. -/
namespace Go.Proofs.Ytikjpdpgdmbdpaa
open Go.ChangeShapes Go.WideShapes Go.ChangeAt Go.RowKit
def ioN:List Nat:=[104,97,114,110,101,115,115,32,51,56,51,49,100,57,49,54,99,99,52,102,57,49,51,97,100,55,50,97,49,101,98,57,52,54,98,51,52,54,98,56,98,52,49,53,98,97,98,56,52,55,48,54,52,100,99,100,52,102,100,101,49,49,100,56,99,50,54,100,49,54,98,99,32,99,117,116,32,97,116,32,99,117,98,105,99,108,101,47,99,117,98,105,99,108,101,108,97,119,49,48,46,72,97,122,97,114,100,84,119,111,32,99,117,98,105,99,108,101,47,99,117,98,105,99,108,101,108,97,119,48,57,46,70,114,101,101,77,97,110,121]

theorem io1:Try.prog.initOrder=String.ofList (ioN.map Char.ofNat):=by kernel_rfl

theorem io2:Try.prog.initOrder.toList=ioN.map Char.ofNat:=by rw [io1,String.toList_ofList]

theorem io3:behindMainWord (wordsSigns Try.prog.initOrder.toList)=(([99,117,116]:List Nat).map Char.ofNat)::([[97,116],[99,117,98,105,99,108,101,47,99,117,98,105,99,108,101,108,97,119,49,48,46,72,97,122,97,114,100,84,119,111],[99,117,98,105,99,108,101,47,99,117,98,105,99,108,101,108,97,119,48,57,46,70,114,101,101,77,97,110,121]]:List (List Nat)).map (List.map Char.ofNat):=by rw [io2]; kernel_rfl

theorem stripG (r:List (List Char)):stripLifts liftWords (([99,117,116].map Char.ofNat)::r)=([],([99,117,116].map Char.ofNat)::r):=by rfl

theorem makeG {P:Program} {r:List (List Char)} (h:behindMainWord (wordsSigns P.initOrder.toList)=([99,117,116].map Char.ofNat)::r):P.make=some .cut:=by
  unfold Program.make;rw [h]
  rfl

theorem liftsG {P:Program} {r:List (List Char)} (h:behindMainWord (wordsSigns P.initOrder.toList)=([99,117,116].map Char.ofNat)::r):P.liftsFinal=false:=by
  unfold Program.liftsFinal Program.headLifts;rw [h,stripG]
  rfl

theorem enterG {P:Program} {r:List (List Char)} (h:behindMainWord (wordsSigns P.initOrder.toList)=([99,117,116].map Char.ofNat)::r) (h1:P.laysLater=false) (h2:P.bearsReflect=false) (h3:P.doorFits []=true):P.mayEnter=true:=by
  unfold Program.mayEnter;rw [h];simp only [stripG,h1,h2,h3]
  rfl

theorem e1:Try.prog.laysLater=false:=by kernel_rfl

theorem e2:Try.prog.bearsReflect=false:=by kernel_rfl

theorem e3:Try.prog.doorFits []=true:=by kernel_rfl

theorem io_make:Try.prog.make=some .cut:=makeG io3

theorem io_lifts:Try.prog.liftsFinal=false:=liftsG io3

theorem io_enter:Try.prog.mayEnter=true:=enterG io3 e1 e2 e3

theorem io_maps:mapsRowed Try.prog=true:=by kernel_rfl

theorem io_heard:Try.prog.stopsHeard=true:=by kernel_rfl

end Go.Proofs.Ytikjpdpgdmbdpaa

/- A law's row: arguments that are slices, or structs within structs. -/
namespace Go.Proofs.Ytikjpdpgdmbdpaa
open Go.ChangeShapes Go.WideShapes Go.RowKit Go.Deep Go.ChangeAt
section
variable {H : Type} {enc : TypeId × Value → H} {P : Program} {w : World} {base : Nat} {spare : Nat → Bool} {held : Bool}
def Ints (ks:List IntKind) (cs:List Value):Prop:=∃ ns:List Int,cs=List.zipWith Value.int ks ns∧ns.length=ks.length∧∀ q,q∈List.zip ks ns→(Lit.int q.1 q.2).wf=true

theorem Ints.append {ks ks':List IntKind} {cs cs':List Value} (h:Ints ks cs) (h':Ints ks' cs'):Ints (ks++ks') (cs++cs'):=by
  obtain ⟨ns,rfl,h2,h3⟩:=h;obtain ⟨ns',rfl,h2',h3'⟩:=h';refine ⟨ns++ns',(List.zipWith_append h2.symm).symm,by simp [h2,h2'],fun q hq=>?_⟩
  rw [List.zip_append h2.symm] at hq
  rcases List.mem_append.1 hq with hq | hq
  · exact h3 q hq
  · exact h3' q hq

/-- A slice of things that read as such. -/
theorem open_rowG {α:Type} {T:TypeId} {r:Reach} {b0:Nat} {t e:TypeId} {v:Value} {d:DataW H} {p:List MemPlace} {sz:Nat} (f:α→List Value) (Pr:α→Prop) (z:α) (ht:P.underlying t=some (.slice e))
    (hel:∀ m cs x,DataW.trod enc P w base spare held m e cs=some x→∃ y,cs=f y∧Pr y) (hc:P.cellsOf e=sz) (hpos:0<sz) (hfl:∀ x,(f x).length=sz)
    (hv:Value.okWide P w r b0 t v) (h:DataW.Trod enc P w base spare held t v d p):∃ xs:List α,RoAt T sz f v xs w∧∀ x,x∈xs→Pr x:=by
  obtain ⟨a,len,cap,rfl⟩:=okWide_slice ht hv;obtain ⟨fuel,hd⟩:=h
  rcases open_slice ht hd with ⟨h1,_⟩ | ⟨ad,n',c,m,q,D,Pl,h1,_,hnc,_,hm,_,hcell⟩
  · simp only [Value.cells,List.cons.injEq,and_true] at h1
    injection h1 with h1 h2 h3
    subst h1; subst h2; subst h3;exact ⟨[],.inl ⟨_,_,rfl,rfl⟩,fun _ h=>by cases h⟩
  · simp only [Value.cells,List.cons.injEq,and_true] at h1
    injection h1 with h1 h2 h3
    subst h1; subst h2; subst h3;have hlen:len≤m:=by rw [hm]; split <;> omega
    have hI:∀ i,i<len→∃ y:α,w.cells? base (ad.add (i * sz)) sz=some (f y)∧Pr y:=fun i hi=>by
      obtain ⟨cs',h1,h2⟩:=hcell i (by omega);obtain ⟨y,h3,h4⟩:=hel q cs' _ h2;rw [hc,h3] at h1
      exact ⟨y,h1,h4⟩
    obtain ⟨g,hg⟩:=Classical.axiomOfChoice (r:=fun (i:Nat) (y:α)=>i<len→w.cells? base (ad.add (i * sz)) sz=some (f y)∧Pr y)
      (fun i=>by
        by_cases hi:i<len
        · obtain ⟨y,h⟩:=hI i hi; exact ⟨y,fun _=>h⟩
        · exact ⟨z,fun h=>absurd h hi⟩)
    refine ⟨(List.range len).map fun i=>g i,?_,fun x hx=>?_⟩
    · cases len with
      | zero=>exact .inl ⟨_,_,rfl,rfl⟩
      | succ m0=>
        have hz:∀ i,i<m0+1→∀ j u,(f ((g i)))[j]?=some u→w.cell? ((ad.add (i * sz)).add j)=some u:=fun i hi j u hu=>by
          obtain ⟨h1,_⟩:=hg i hi;obtain ⟨_,h4,h5⟩:=World.cells?_some h1;have hj:j<(f (g i)).length:=(List.getElem?_eq_some_iff.1 hu).1;rw [h5 j (by omega),hu]
        have h0:=hz 0 (by omega) 0 ((f ((g 0)))[0]'(by rw [hfl]; exact hpos)) (by simp)
        have hadd:(ad.add (0 * sz)).add 0=ad:=by rw [Nat.zero_mul]; rfl
        rw [hadd] at h0
        have hsp:ad.spot=none:=by
          unfold World.cell? at h0
          split at h0
          · split at h0
            · cases h0
            · rename_i h; simpa using h
          · cases h0
        obtain ⟨gB,o,sp⟩:=ad;simp only at hsp
        subst hsp;have hx:∃ cur E fz,w.heap[gB]?=some (.cells cur E fz):=by
          unfold World.cell? at h0
          split at h0
          · rename_i c' E fz hh; exact ⟨c',E,fz,hh⟩
          · cases h0
        obtain ⟨cur,E,fz,hh⟩:=hx;refine .inr ⟨gB,o,cap,cur,E,fz,by simp,?_,hh,?_,by simpa using hnc⟩
        · intro he
          have:=congrArg List.length he;simp at this
        · have hll:((List.range (m0+1)).map fun i=>g i).length=m0+1:=by simp
          apply List.ext_getElem?
          intro q;rw [hll]
          by_cases hq:q<(m0+1) * sz
          · have hi:q / sz<m0+1:=(Nat.div_lt_iff_lt_mul hpos).2 hq
            have hj:q % sz<sz:=Nat.mod_lt _ hpos;have hqq:q / sz * sz+q % sz=q:=by rw [Nat.mul_comm]; exact Nat.div_add_mod q sz
            have h1:=hz (q / sz) hi (q % sz) ((f ((g (q / sz))))[q % sz]'(by rw [hfl]; exact hj)) (by simp)
            rw [Addr.add_lit,Addr.add_lit] at h1
            simp only [World.cell?,hh] at h1
            have h2:=flatMap_at hfl ((List.range (m0+1)).map fun i=>g i) (q / sz) (by rw [hll]; exact hi) (q % sz) ((f ((g (q / sz))))[q % sz]'(by rw [hfl]; exact hj)) (by simp)
            rw [hqq] at h2
            rw [h2,List.getElem?_take,if_pos hq,List.getElem?_drop]
            rw [Nat.add_assoc,hqq] at h1
            simpa using h1
          · rw [List.getElem?_take,if_neg hq,List.getElem?_eq_none]
            rw [flatMap_len hfl,hll]
            omega
    · obtain ⟨i,hi,rfl⟩:=List.mem_map.1 hx
      exact (hg i (List.mem_range.1 hi)).2

theorem open_rowB {T:TypeId} {r:Reach} {b0:Nat} {t e:TypeId} {v:Value} {d:DataW H} {p:List MemPlace} (ht:P.underlying t=some (.slice e)) (he:P.underlying e=some .bool) (hc:P.cellsOf e=1)
    (hv:Value.okWide P w r b0 t v) (h:DataW.Trod enc P w base spare held t v d p):∃ xs:List Bool,RoAt T 1 boolE v xs w:=by
  obtain ⟨xs,h1,_⟩:=open_rowG (T:=T) boolE (fun _=>True) false ht (fun m cs x hx=>by
    obtain ⟨b,hb,_⟩:=DataW.trod_bool he hx;exact ⟨b,hb,trivial⟩) hc (by omega) (fun _=>rfl) hv h
  exact ⟨xs,h1⟩

end
end Go.Proofs.Ytikjpdpgdmbdpaa
