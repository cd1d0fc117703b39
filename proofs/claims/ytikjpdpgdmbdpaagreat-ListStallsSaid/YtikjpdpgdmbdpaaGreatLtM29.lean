/- Some of our texts, one behind the other. -/
import Derived.Test.YtikjpdpgdmbdpaaGreatLtM24
import Derived.Test.YtikjpdpgdmbdpaaGreatLtM26
import Derived.Test.YtikjpdpgdmbdpaaGreatLtM27
import Derived.Test.YtikjpdpgdmbdpaaGreatLtLawLS
import Derived.WalkKit
import Derived.ProofKit
import Derived.OpenShut
import Derived.ShutString
import Derived.ChangeOld
import Derived.Below
import Derived.Carry
import Derived.SizedLaws
import Derived.Deep.Slices
import Derived.Deep.Fields
import Derived.ChangeSame
import Derived.Test.YtikjpdpgdmbdpaaGreatRows
import Derived.ChangeSlices
import Derived.Test.YtikjpdpgdmbdpaaGreatLtM6
set_option linter.all false
/- Ours. -/
namespace Go.Proofs.YtikjpdpgdmbdpaaGreat
open Go.RowKit
/-! ### Keys that compare alike -/
theorem CR.lt {K K0 a a0 b b0:Int} (ha:CR K K0 a a0) (hb:CR K K0 b b0) (h:a0<b0):a<b:=by
  rcases ha with ⟨rfl,rfl⟩ | ⟨rfl,h1,h2⟩ <;> rcases hb with ⟨rfl,rfl⟩ | ⟨rfl,h3,h4⟩
  · omega
  · have:a≤b:=h3.2 kw
    have:b≠a:=fun e=>by have:=h4.1 e; omega
    omega
  · have:¬ b≤a:=fun h=>by have:=h1.1 h; omega
    omega
  · exact h
theorem Cs (q:Int) (hq:0≤q∧q<16):keyB ps (fp ps q 0)=true:=by
  unfold keyB;rw [jp,jo,show ps.nodes=16 from rfl]
  simp only [Bool.and_eq_true,decide_eq_true_eq]
  omega
theorem nk (j:Int) (h:¬ (26≤j∧j<106∧(j - 26) % 5=2)):keyB ps j=false:=fL fun h'=>h (by rw [jp,show ps.nodes=16 from rfl] at h'; exact h')
section
variable {K K0 : Int} (h0 : CR K K0 0 0) (hK : K < 1000) {ws ws0 : List Int} (hw : WR ps K K0 ws ws0) {P : Pool} {g : Int} {l : List Int}
include h0 hK hw
theorem WR.other {j:Int} (hj:0≤j) (h:¬ (26≤j∧j<106∧(j - 26) % 5=2)):rd ws j=rd ws0 j:=(hw.at_ j hj).same (nk j h)
theorem WR.key {q:Int} (hq:0≤q∧q<16):CR K K0 (rd ws (fp ps q 0)) (rd ws0 (fp ps q 0)):=by
  have:=hw.at_ (fp ps q 0) (by rw [jo]; omega)
  unfold VR at this
  rw [if_pos (Cs q hq)] at this
  exact this
theorem LAt.alike (h:LAt ps 0 ws0 P g 2 l) (hk:∀ e,e∈ents ps ws0 l→e.key<1000):LAt ps 0 ws P g 2 l∧∀ e,e∈ents ps ws l→e.key<1000:=by
  have hp:=psF;have ht:(0:Int)≤0∧(0:Int)<ps.threads:=⟨Int.le_refl _,show (0:Int)<2 by omega⟩
  have h16:ps.nodes=16:=rfl;have hsp:∀ q,sp ps q=26+q * 5:=fun q=>by unfold sp; rw [jp]
  have hrb:rb ps 0=10:=by unfold rb; rw [vU]; rfl
  have hr7:ps.retire=7:=rfl;have hoth:=fun j=>WR.other h0 hK hw (j:=j)
  have hfp:∀ q f,fp ps q f=26+q * 5+2+f:=jo;have hlr:=h.link.range;have hPool:PoolH ps 0 ws P g:=by
    refine h.pool.keep hp ht (st:=P.st) hw.len (hoth 0 kw kw) (fun j j0 j1=>hoth j kw kw) (fun q f hq f0 f1=>?_) (fun q q0 q1=>?_)
    · have hqr:=h.pool.free.range q hq
      rw [hsp]
      by_cases e:f=2
      · subst e
        have hz:=h.pool.zero q 0 hq kw kw
        have hc:=WR.key h0 hK hw (q:=q) kw
        have e1:fp ps q 0=26+q * 5+2:=by rw [hfp]; omega
        have e2:sp ps q+2+0=26+q * 5+2:=by rw [hsp]; omega
        rw [e1] at hc
        rw [e2] at hz
        rw [hz] at hc ⊢
        rcases hc with ⟨c1,c2⟩ | ⟨c1,_⟩
        · rcases h0 with ⟨d1,d2⟩ | ⟨_,_,d3⟩
          · rw [c1,←d1]
          · rw [c1,←d3.2 c2]
        · exact c1
      · exact hoth _ kw kw
    · have:=h.pool.st q q0 q1
      exact ⟨by rw [hsp,hoth _ kw kw,←hsp]; exact this.1,this.2⟩
  refine ⟨⟨hPool,fun j j0 j1=>?_,h.link.keepW (hoth 2 kw kw) (fun q hq=>?_),h.nd,h.out,?_⟩,fun e he=>?_⟩
  · rw [nI]
    rw [hoth _ kw kw,←nI]
    exact h.own j j0 j1
  · have:=hlr q hq
    rw [hfp]
    exact hoth _ kw kw
  · have hinc:=h.inc
    unfold Rise ents at hinc ⊢
    rw [List.pairwise_map] at hinc ⊢
    refine hinc.imp_of_mem fun {a b} ha hb hab=>?_;exact CR.lt (WR.key h0 hK hw (h16 ▸ hlr a ha)) (WR.key h0 hK hw (h16 ▸ hlr b hb)) hab
  · obtain ⟨q,hq,rfl⟩:=List.mem_map.1 he
    have h1:=hk _ (List.mem_map.2 ⟨q,hq,rfl⟩)
    rcases WR.key h0 hK hw (h16 ▸ hlr q hq) with ⟨c1,_⟩ | ⟨c1,_⟩
    · show rd ws (fp ps q 0)<1000
      rw [c1]; exact hK
    · show rd ws (fp ps q 0)<1000
      rw [c1]; exact h1
theorem Still.alike (h:Still ws0):Still ws:=by
  obtain ⟨P,g,hg,hrt,hfr,h⟩:=h;refine ⟨P,g,hg,hrt,hfr,?_⟩
  rcases h with ⟨l,hL,hk⟩ | ⟨pre,n,suf,hL,hk⟩
  · exact .inl ⟨l,LAt.alike h0 hK hw hL hk⟩
  · have hn:=hL.link.range n (List.mem_append_right _ (List.mem_cons_self ..))
    have h16:ps.nodes=16:=rfl;rw [h16] at hn
    have hl:ws0.length=106:=by
      have:((unm ws0 n).length:Int)=D.aU ps:=hL.pool.free.len;rw [rm] at this
      unfold unm at this
      rw [List.length_set] at this
      omega
    have hl':=hw.len;have hu:WR ps K K0 (unm ws n) (unm ws0 n):=⟨by unfold unm; simp [hw.len],fun j hj=>by
      unfold unm;rw [bG kw kw hj,bG kw kw hj]
      by_cases e:j=26+n * 5+4
      · rw [if_pos e,if_pos e,e,WR.other h0 hK hw kw kw]
        exact VR.refl (nk _ kw)
      · rw [if_neg e,if_neg e]; exact hw.at_ j hj⟩
    exact .inr ⟨pre,n,suf,LAt.alike h0 hK hu hL hk⟩
end
/-! ### The other thread's call, stopped -/
def runW {R:Type}:Nat→T R→List Int→Option (List Int)
  | 0,_,_=>none
  | n+1,t,ws=>match went t ws with
    | .over _=>some ws
    | .went x w=>runW n (t.next x) w
    | .bad=>none
theorem uV {R:Type}:∀ {n:Nat} {t:T R} {ws w:List Int},runW n t ws=some w→∃ m r,m<n∧Runs t ws m r w
  | 0,_,_,_,h=>by cases h
  | n+1,t,ws,w,h=>by
    unfold runW at h
    split at h
    · rename_i r e
      obtain rfl:=Option.some.inj h;rw [uq e];exact ⟨0,r,kw,.done _ _⟩
    · rename_i x w1 e
      obtain ⟨m,r,hm,hr⟩:=uV h;exact ⟨m+1,r,kw,.CP e hr⟩
    · cases h
def lsw:Nat→List Int
  | 0=>match D.fZ 4000 ps with
    | some M=>M.ws
    | none=>[]
  | i+1=>(runW 200 (D.cH 4001 (⟨ps,0,0⟩:Seat) 2 (40 * (i:Int)) 1) (lsw i)).getD []
def ls4:List Int:=[8388613,0,2,0,0,0,0,0,0,0,0,0,0,0,0,0,0,0,0,0,0,0,0,0,0,0,9663676416,2,0,1,4,9663676416,3,40,1,6,9663676416,4,80,1,8,9663676416,5,120,1,0,0,6,0,0,0,0,7,0,0,0,0,8,0,0,0,0,9,0,0,0,0,10,0,0,0,0,11,0,0,0,0,12,0,0,0,0,13,0,0,0,0,14,0,0,0,0,15,0,0,0,0,16,0,0,0,0,0,0,0,0]
theorem BW:∀ i∈([0,1,2,3]:List Nat),(runW 200 (D.cH 4001 (⟨ps,0,0⟩:Seat) 2 (40 * (i:Int)) 1) (lsw i)).isSome=true:=by decide +kernel
theorem lsw4:lsw 4=ls4:=by decide +kernel
theorem C2:(List.range 106).all (fun j=>([0,40,80,120]:List Int).elem (rd ls4 j)||!keyB ps j)=true:=by decide +kernel
def reps:List Int:=[0,20,40,60,80,100,120,200]
theorem stAdd (v:Int):(reps.all fun K=>prefs chkS 40 (D.cH 4001 (⟨ps,0,1⟩:Seat) 2 K v) ls4)=true:=kz
theorem stDel:(reps.all fun K=>prefs chkS 40 (D.cB 4001 4001 (⟨ps,0,1⟩:Seat) 2 K) ls4)=true:=by decide +kernel
theorem stGet:(reps.all fun K=>prefs chkS 40 (D.cN 4001 (⟨ps,0,1⟩:Seat) 2 K) ls4)=true:=by decide +kernel
theorem Dg {K:Int} (h0:0≤K):∃ K0,K0∈reps∧∀ x∈([0,40,80,120]:List Int),CR K K0 x x:=by
  have key:∀ K0∈reps,(∀ x∈([0,40,80,120]:List Int),(K≤x↔K0≤x)∧(x=K↔x=K0))→∃ K0,K0∈reps∧∀ x∈([0,40,80,120]:List Int),CR K K0 x x:=fun K0 h1 h2=>⟨K0,h1,fun x hx=>.inr ⟨rfl,h2 x hx⟩⟩
  have hall:∀ K0:Int,((K≤0↔K0≤0)∧(0=K↔0=K0))∧((K≤40↔K0≤40)∧(40=K↔40=K0))∧((K≤80↔K0≤80)∧(80=K↔80=K0))∧((K≤120↔K0≤120)∧(120=K↔120=K0))→∀ x∈([0,40,80,120]:List Int),(K≤x↔K0≤x)∧(x=K↔x=K0):=by
    rintro K0 ⟨a,b,c,d⟩ x hx;simp only [List.mem_cons,List.not_mem_nil,or_false] at hx
    rcases hx with rfl | rfl | rfl | rfl
    · exact a
    · exact b
    · exact c
    · exact d
  rcases (show K=0∨(0<K∧K<40)∨K=40∨(40<K∧K<80)∨K=80∨(80<K∧K<120)∨K=120∨120<K by omega) with h | h | h | h | h | h | h | h
  · exact key 0 ke (hall 0 kw)
  · exact key 20 ke (hall 20 kw)
  · exact key 40 ke (hall 40 kw)
  · exact key 60 ke (hall 60 kw)
  · exact key 80 ke (hall 80 kw)
  · exact key 100 ke (hall 100 kw)
  · exact key 120 ke (hall 120 kw)
  · exact key 200 ke (hall 200 kw)
theorem Da {K K0:Int} (h:∀ x∈([0,40,80,120]:List Int),CR K K0 x x):WR ps K K0 ls4 ls4:=⟨rfl,fun j hj=>by
  unfold VR
  split
  · rename_i hk
    have hlt:j<106:=by
      cases e:decide (j<106) with
      | true=>exact of_decide_eq_true e
      | false=>
        have:keyB ps j=false:=nk j (by have:=of_decide_eq_false e; omega)
        rw [this] at hk; cases hk
    have:=List.all_eq_true.1 C2 j.toNat (List.mem_range.2 kw)
    rw [show ((j.toNat:Nat):Int)=j from kw,hk] at this
    simp only [Bool.not_true,Bool.or_false] at this
    exact h _ (List.elem_iff.1 this)
  · rfl⟩
theorem stopped (c:CallL) (hk:0≤c.k∧c.k≤255):PrefP Still 40 (D.dZ 4001 (⟨ps,0,1⟩:Seat) 2 c) ls4:=by
  have hw:IntKind.u64.wrap c.k=c.k:=cx kw kw
  obtain ⟨K0,hK0,hcr⟩:=Dg hk.1;have h0:=hcr 0 ke;have hWR:=Da hcr;have hcell:keyB ps 2=false:=nk 2 kw;have fin:∀ {t t0:T Res},prefs chkS 40 t0 ls4=true→TS ps c.k K0 (Eq:Res→Res→Prop) t t0→PrefP Still 40 t ls4:=fun hp ht=>
    ((PrefP.of hp).transport ht hWR).mono fun w ⟨w0,hw,hc⟩=>Still.alike h0 kw hw (CO hc)
  unfold D.dZ;rw [hw];cases (c.kind.tmod 3==0) with
  | true=>exact fin (List.all_eq_true.1 (stAdd (IntKind.u64.wrap c.v)) K0 hK0) (tsAdd psF h0 _ _ _ _ hcell)
  | false=>
    cases (c.kind.tmod 3==1) with
    | true=>exact fin (List.all_eq_true.1 stDel K0 hK0) (tsDel psF h0 _ _ _ hcell _)
    | false=>exact fin (List.all_eq_true.1 stGet K0 hK0) (tsGet psF _ _ _ h0 hcell)
/-! ### The thread alone -/
def After (i:Nat) (ws:List Int):Prop:=∃ P g l,LAt ps 0 ws P g 2 l∧(∀ e,e∈ents ps ws l→e.key<1000)∧g≤200+40 * (i:Int)∧P.rt.length≤1+i∧11≤P.fr.length+i
section
variable {i : Nat} (hi : i < 6) {k : Int} (hk : 1000 ≤ k) {ws : List Int}
theorem ps_t:(0:Int)≤0∧(0:Int)<ps.threads:=⟨Int.le_refl _,show (0:Int)<2 by omega⟩
theorem ps_c:(0:Int)<2∧(2:Int)<D.aC ps:=by rw [nI]; omega
theorem ps_n:ps.nodes≤900:=by show (16:Int)≤900; omega
theorem pT {E:List Entry} (hE:Rise E) (h:∀ e,e∈E→e.key<1000) {k:Int} (hk:1000≤k):hasE k E=false:=by
  cases hb:hasE k E with
  | false=>rfl
  | true=>
    obtain ⟨v,hv⟩:=hE.uS.1 hb;have:k<1000:=h _ hv;omega
theorem get_none {k:Int} {E:List Entry} (h:hasE k E=false):getE k E=⟨6,0⟩:=by
  unfold getE;unfold hasE at h
  cases hh:hiE k E with
  | nil=>rfl
  | cons a r=>rw [hh] at h; simp only; rw [if_neg (by simpa using h)]
theorem D3 {k v:Int} {E:List Entry}:hiE k (insE k v E)=⟨k,v⟩::hiE k E∧loE k (insE k v E)=loE k E:=by
  have:=cutE (k:=k) (A:=loE k E) (B:=⟨k,v⟩::hiE k E) (fun e he=>qZ he) (fun e he=>by
    simp only [List.head?_cons,Option.some.injEq] at he
    rw [←he]; exact Int.le_refl _)
  exact ⟨this.2,this.1⟩
theorem Cv {k v:Int} {E:List Entry} (h:hasE k E=false):delE k (insE k v E)=E∧hasE k (insE k v E)=true∧getE k (insE k v E)=⟨0,v⟩:=by
  obtain ⟨h1,h2⟩:=D3 (k:=k) (v:=v) (E:=E);have h3:hasE k (insE k v E)=true:=by unfold hasE; rw [h1]; simp
  refine ⟨?_,h3,?_⟩
  · unfold delE
    rw [if_pos h3,h1,h2]
    exact (Rise.split (k:=k) (E:=E)).symm
  · unfold getE
    rw [h1]
    simp
include hi hk
theorem firstGet (h:After i ws∨Still ws∧i=0):∃ m ws',m≤1500∧Runs (D.cN 4001 (⟨ps,0,0⟩:Seat) 2 k) ws m ⟨6,0⟩ ws'∧After i ws':=by
  have hp:=psF;have h16:ps.nodes.toNat=16:=rfl;have key:After i ws→∃ m ws',m≤1500∧Runs (D.cN 4001 (⟨ps,0,0⟩:Seat) 2 k) ws m ⟨6,0⟩ ws'∧After i ws':=by
    rintro ⟨P,g,l,hL,hke,hx⟩;obtain ⟨m,hm,hr⟩:=hL.get hp (by have:=ps_n; omega) ps_t ps_c 4000 kw k;have hll:=hL.eL hp (by have:=ps_n; omega) ps_t ps_c;rw [h16] at hll
    rw [get_none (pT hL.inc hke hk)] at hr
    exact ⟨m,ws,kw,hr,P,g,l,hL,hke,hx⟩
  rcases h with h | ⟨⟨P,g,hg,hrt,hfr,h⟩,rfl⟩
  · exact key h
  · rcases h with ⟨l,hL,hke⟩ | ⟨pre,n,suf,hL,hke⟩
    · exact key ⟨P,g,l,hL,hke,kw,by rw [hrt]; simp,kw⟩
    · have hn:=hL.link.range n (List.mem_append_right _ (List.mem_cons_self ..))
      have hn16:0≤n∧n<16:=hn;have hlen:((unm ws n).length:Int)=106:=by have:=hL.pool.free.len; rw [rm] at this; exact this
      have hlen':(unm ws n).length=ws.length:=by unfold unm; rw [List.length_set]
      have hfn:fp ps n 2=26+n * 5+4:=by rw [jo]; omega
      have hlw:rd (unm ws n) (fp ps n 2)=lw suf:=(aY.app hL.link).2.2.word;have hrd:∀ j,0≤j→rd (unm ws n) j=if j=26+n * 5+4 then rd ws (26+n * 5+4) - 1 else rd ws j:=fun j hj=>by unfold unm; rw [bG kw kw hj]
      have hws:∀ j,0≤j→rd ws j=if j=fp ps n 2 then lw suf+1 else rd (unm ws n) j:=fun j hj=>by
        by_cases e:j=fp ps n 2
        · rw [if_pos e,←hlw,e,hfn,hrd _ kw,if_pos rfl]; omega
        · rw [if_neg e,hrd j hj,if_neg (by rw [←hfn]; exact e)]
      have hll:=hL.eL hp (by have:=ps_n; omega) ps_t ps_c
      rw [h16] at hll
      simp only [List.length_append,List.length_cons] at hll
      have hr0:P.rt.length=0:=by rw [hrt]; rfl
      obtain ⟨m,ws',g',hm,hg',hr,hL',he'⟩:=BL hp ps_n ps_t 4000 kw (k:=k) hL ps_c hlen'.symm hws kw (by rw [hrt]; show (0:Int)<7; omega) (fun q hq=>by
        have:=hke ⟨rd (unm ws n) (fp ps q 0),rd (unm ws n) (fp ps q 1)⟩ (List.mem_map.2 ⟨q,hq,rfl⟩);simp only at this
        omega)
      have hdrop:dropP ps P n=⟨P.fr,P.rt++[n],fun q=>if q=n then ⟨(P.st n).gen,2,(P.st n).kind⟩ else P.st q⟩:=by
        unfold dropP Pool.stash;simp only;rw [if_pos (by rw [hrt]; show (0:Int)<7; omega)]
      refine ⟨m,ws',kw,hr,_,g',pre++suf,hL',fun e he=>?_,kw,by rw [hdrop]; simp [hr0],by rw [hdrop]; simpa using hfr⟩
      rw [he'] at he
      refine hke e ?_;obtain ⟨q,hq,rfl⟩:=List.mem_map.1 he;refine List.mem_map.2 ⟨q,?_,rfl⟩
      rcases List.mem_append.1 hq with hq | hq
      · exact List.mem_append_left _ hq
      · exact List.mem_append_right _ (List.mem_cons_of_mem _ hq)
theorem oneKey (h:After i ws):∃ m1 m2 m3 m4 w1 w2,(m1≤1500∧m2≤1500∧m3≤1500∧m4≤1500)∧Runs (D.cH 4001 (⟨ps,0,0⟩:Seat) 2 k 9) ws m1 ⟨0,0⟩ w1∧Runs (D.cN 4001 (⟨ps,0,0⟩:Seat) 2 k) w1 m2 ⟨0,9⟩ w1∧
    Runs (D.cB 4001 4001 (⟨ps,0,0⟩:Seat) 2 k) w1 m3 ⟨0,9⟩ w2∧Runs (D.cB 4001 4001 (⟨ps,0,0⟩:Seat) 2 k) w2 m4 ⟨6,0⟩ w2∧After (i+1) w2:=by
  have hp:=psF;have h16:ps.nodes.toNat=16:=rfl;have hr7:ps.retire=7:=rfl;have hnn:ps.nodes≤1000:=by have:=ps_n; omega
  obtain ⟨P,g,l,hL,hke,hg,hrt,hfr⟩:=h;obtain ⟨n,l1,hPf⟩:∃ n l1,P.fr=n::l1:=by
    cases hf:P.fr with
    | nil=>rw [hf] at hfr; simp at hfr; omega
    | cons n l1=>exact ⟨n,l1,rfl⟩
  have hno:=pT hL.inc hke hk;have hll:=hL.eL hp hnn ps_t ps_c;obtain ⟨m1,w1,P1,l2,hm1,hr1,hL1,hf1,ht1,he1⟩:=hL.addF hp hnn ps_t ps_c hPf 4000 kw kw k 9 hno
  obtain ⟨d1,d2,d3⟩:=Cv (v:=9) hno;have hll1:=hL1.eL hp hnn ps_t ps_c;rw [h16] at hll hll1
  obtain ⟨m2,hm2,hr2⟩:=hL1.get hp hnn ps_t ps_c 4000 kw k;rw [he1,d3] at hr2
  have hroom:(P1.rt.length:Int)<ps.retire:=by rw [ht1,hr7]; omega
  obtain ⟨m3,w2,P2,g2,l3,hm3,hg2,hr3,hL2,hK2,he2,hcase⟩:=hL1.del hp hnn ps_t ps_c 4000 4000 kw kw k fun h=>absurd hroom h
  rw [he1,d3] at hr3
  rw [he1,d1] at he2
  rcases hcase with ⟨hb,_⟩ | ⟨_,pre,q,suf,e1,e2,e3,_⟩
  · rw [he1,d2] at hb; cases hb
  have hke2:∀ e,e∈ents ps w2 l3→e.key<1000:=by rw [he2]; exact hke
  have hdrop:P2.fr=l1∧P2.rt.length=P.rt.length+1:=by
    rw [e3]
    unfold dropP Pool.stash;simp only;rw [if_pos hroom];exact ⟨hf1,by simp [ht1]⟩
  have hno2:=pT hL2.inc hke2 hk;obtain ⟨m4,hm4,hr4⟩:=hL2.delN hp hnn ps_t ps_c 4000 4000 kw k hno2
  have hll2:=hL2.eL hp hnn ps_t ps_c;rw [h16] at hll2
  rw [ht1] at hm3 hg2
  refine ⟨m1,m2,m3,m4,w1,w2,⟨kw,kw,kw,kw⟩,hr1,hr2,hr3,hr4,P2,g2,l3,hL2,hke2,by simp only [Int.natCast_add,Int.natCast_one]; omega,by rw [hdrop.2]; omega,?_⟩
  rw [hdrop.1]
  rw [hPf] at hfr
  simp only [List.length_cons] at hfr
  omega
end
theorem zU (c:CallL) (stop:Int) (keys:List Int) (_:0≤c.kind∧c.kind≤255) (hk:0≤c.k∧c.k≤255) (_:0≤c.v∧c.v≤255) (hs:0≤stop∧stop≤255) (hb:∀ n,n∈keys→0≤n∧n≤255):∃ fu,Wk.D.lA fu c stop keys=some true:=by
  refine ⟨4000,?_⟩;unfold Wk.D.lA;rw [CH];simp only [Option.bind_some,Bool.not_true,cond_false];cases hl:decide ((keys.length:Int) > 6)
  case true=>rfl
  simp only [decide_eq_false_iff_not] at hl
  simp only [cond_false]
  have hcell:D.bo ps 0 0=2:=qj psF ke (c:=0) kw
  rw [show (⟨16,2,7,1,1,100⟩:Plan)=ps from rfl,hcell]
  have hM:∃ M,D.fZ 4000 ps=some M:=by
    obtain ⟨M,hM,_⟩:=CK psF ⟨ke,ke,ke,ke⟩ (fu:=4000) kw
    exact ⟨M,hM⟩
  obtain ⟨M,hM⟩:=hM;have hM0:M.ws=lsw 0:=by
    unfold lsw;rw [hM]
  rw [hM]
  simp only [Option.bind_some,vB]
  refine uH (fun o=>o=some true) (fun (i:Nat) (x:Int × Mem)=>x.1=(i:Int)∧x.2.ws=lsw i) 4 4000 ⟨rfl,hM0⟩ kw ?_ ?_
  · rintro i ⟨x,M1⟩ hi ⟨rfl,hws⟩
    simp only at hws ⊢
    rw [show decide ((i:Int)<4)=true from by simp; omega]
    simp only [cond_true]
    have h1:=BW i (by simp only [List.mem_cons,List.not_mem_nil,or_false]; omega)
    obtain ⟨w,hw⟩:=Option.isSome_iff_exists.1 h1;obtain ⟨m,r,hm,hr⟩:=uV hw;rw [cn (show -1000000≤40 * (i:Int) by omega) kw,cx (show 0≤40 * (i:Int) by omega) kw]
    rw [←hws] at hr
    obtain ⟨c1,hc1⟩:=runR (fu:=4000) (most:=999) (M:=M1) hr kw kw kw;rw [hc1];simp only [Option.bind_some];rw [cn (show -1000000≤(i:Int)+1 by omega) kw]
    refine ⟨_,rfl,by simp,?_⟩
    show w=lsw (i+1)
    unfold lsw;rw [hw]
    rfl
  · rintro ⟨x,M1⟩ ⟨rfl,hws⟩
    simp only at hws ⊢
    rw [lsw4] at hws
    refine ⟨((4:Nat),M1),rfl,?_⟩;simp only;have hmod:0≤stop.tmod 40∧stop.tmod 40<40:=⟨Int.tmod_nonneg _ hs.1,Int.tmod_lt_of_pos _ kw⟩;rw [cn (show -1000000≤stop.tmod 40 by omega) kw]
    have hst:=stopped c hk;rw [←hws] at hst
    obtain ⟨r,kk,bb,M2,hrun,hstill⟩:=BC (z:=(⟨0,0⟩:Res)) (fu:=4000) (d:=4000) (most:=stop.tmod 40) hst hmod.1 kw kw kw kw;have hrun':D.dT 4000 (4000,D.dZ (4000+1) (⟨ps,0,1⟩:Seat) 2 c) M1 cap0 (stop.tmod 40)=some (r,kk,bb,M2):=hrun;rw [hrun'];simp only [Option.bind_some];refine uH (fun o=>o=some true) (fun (i:Nat) (x:Bool × Int × Mem)=>x.2.1=(i:Int)∧(After i x.2.2.ws∨Still x.2.2.ws∧i=0)) keys.length 4000 ⟨rfl,.inr ⟨hstill,rfl⟩⟩ kw ?_ ?_
    · rintro i ⟨b,x,M3⟩ hi ⟨rfl,hA⟩
      simp only at hA ⊢
      rw [show decide ((i:Int)<(keys.length:Int))=true from by simp; omega]
      simp only [cond_true]
      rw [Ci hi]
      simp only [Option.bind_some]
      have hkb:=hb keys[i] (List.getElem_mem hi);rw [cx (x:=keys[i]) kw kw,cx (x:=1000+keys[i]) kw kw]
      obtain ⟨m0,w0,hm0,hr0,hA0⟩:=firstGet kw (show 1000≤1000+keys[i] by omega) hA
      obtain ⟨m1,m2,m3,m4,w1,w2,⟨hm1,hm2,hm3,hm4⟩,hr1,hr2,hr3,hr4,hA1⟩:=oneKey kw (show 1000≤1000+keys[i] by omega) hA0
      obtain ⟨c0,hc0⟩:=runR (fu:=4000) (most:=2000) (M:=M3) hr0 kw kw kw;rw [hc0];simp only [Option.bind_some];obtain ⟨c1,hc1⟩:=runR (fu:=4000) (most:=2000) (M:=⟨w0,c0⟩) hr1 kw kw kw;rw [hc1];simp only [Option.bind_some];obtain ⟨c2,hc2⟩:=runR (fu:=4000) (most:=2000) (M:=⟨w1,c1⟩) hr2 kw kw kw;rw [hc2];simp only [Option.bind_some];obtain ⟨c3,hc3⟩:=runR (fu:=4000) (most:=2000) (M:=⟨w1,c2⟩) hr3 kw kw kw;rw [hc3];simp only [Option.bind_some];obtain ⟨c4,hc4⟩:=runR (fu:=4000) (most:=2000) (M:=⟨w2,c3⟩) hr4 kw kw kw;rw [hc4];simp only [Option.bind_some];rw [cn (show -1000000≤(i:Int)+1 by omega) kw]
      exact ⟨_,rfl,by simp,.inl hA1⟩
    · rintro ⟨b,x,M3⟩ ⟨rfl,_⟩
      simp only
      rw [show decide ((keys.length:Int)<(keys.length:Int))=false from by simp]
      exact ⟨_,rfl,trivial⟩
end Go.Proofs.YtikjpdpgdmbdpaaGreat

/- Ours. -/
namespace Go.Proofs.YtikjpdpgdmbdpaaGreat
open Go.ChangeShapes Go.WideShapes Go.RowKit Go.Deep Go.ChangeAt
section
variable {H : Type} {enc : TypeId × Value → H} {P : Program} {w : World} {base : Nat} {spare : Nat → Bool} {held : Bool}
theorem Bc {α:Type} {l:List α} {j:Nat} (h:j<l.length):(l.drop j).take 1=[l[j]]:=by
  rw [List.drop_eq_getElem_cons h]
  rfl
theorem AL {r:Reach} {b0:Nat} {t:TypeId} {fs:Array Go.Field} {v:Value} {d:DataW H} {p:List MemPlace} (ks:List IntKind) (hs:P.underlying t=some (.struct fs)) (hone:oneCellFields P fs=true)
    (hC:P.cellsOf t=fs.size) (hk:fs.toList.map (fun f=>P.underlying f.type)=ks.map fun k=>some (.int k))
    (hv:Value.okWide P w r b0 t v) (h:DataW.Trod enc P w base spare held t v d p) :
    ∃ ns:List Int,v=.agg (List.zipWith Value.int ks ns).toArray∧ns.length=ks.length∧∀ q,q∈List.zip ks ns→(Lit.int q.1 q.2).wf=true:=by
  obtain ⟨cs,rfl,hsz⟩:=okWide_struct hs hv;obtain ⟨fuel,hf⟩:=h;obtain ⟨xs,n,_,hx,hl,hlen,hfs⟩:=DataW.trod_struct hs hf;have hkl:ks.length=fs.size:=by
    have:=congrArg List.length hk;simpa using this.symm
  have hcl:cs.size=fs.size:=hsz.trans hC;have hat:∀ j (hj:j<cs.size),∃ (k:IntKind) (m:Int),ks[j]?=some k∧cs[j]=.int k m∧(Lit.int k m).wf=true:=by
    intro j hj;have hjf:fs[j]?=some fs[j]:=by simp
    obtain ⟨ho,hc⟩:=hone_of hone j _ hjf;have h1:=hfs j _ hjf;rw [ho,hc] at h1
    have hcs:((Value.agg cs).cells.toList.drop j).take 1=[cs[j]]:=by
      have:=Bc (l:=cs.toList) (j:=j) (by simpa using hj)
      simpa [Value.cells] using this
    rw [hcs] at h1
    have hxs:xs[j]?=some (xs[j]'kw):=by simp
    rw [hxs] at h1
    have hu:(fs.toList.map (fun f=>P.underlying f.type))[j]?=some (P.underlying fs[j].type):=by simp [hjf]
    rw [hk] at hu
    obtain ⟨k,hk1,hk2⟩:∃ k,ks[j]?=some k∧some (.int k)=P.underlying fs[j].type:=by
      simpa using hu
    obtain ⟨m,hm,_,hw⟩:=DataW.trod_int hk2.symm h1;exact ⟨k,m,hk1,by simpa using hm,hw⟩
  refine ⟨cs.toList.map intOf,?_,by simp; omega,?_⟩
  · congr 1
    apply Array.ext_getElem?
    intro j
    rcases Nat.lt_or_ge j cs.size with hj | hj
    · obtain ⟨k,m,h1,h2,_⟩:=hat j hj
      simp [List.getElem?_zipWith,h1,hj,h2,intOf]
    · simp [List.getElem?_zipWith,hj]
  · intro q hq
    obtain ⟨j,hj,he⟩:=List.mem_iff_getElem.1 hq;simp only [List.length_zip,List.length_map,Array.length_toList] at hj
    obtain ⟨k,m,h1,h2,h3⟩:=hat j kw;have hk3:ks[j]'kw=k:=by
      have:=List.getElem?_eq_getElem (l:=ks) (i:=j) kw
      rw [h1] at this
      exact (Option.some.inj this).symm
    simp only [List.getElem_zip,List.getElem_map] at he
    rw [←he]
    simp only [hk3,Array.getElem_toList,h2,intOf]
    exact h3
end
theorem DJ {α:Type} {l:List α} (h:l.length=3):∃ x0 x1 x2,l=[x0,x1,x2]:=by
  match l,h with
  | [x0,x1,x2],_=>exact ⟨x0,x1,x2,rfl⟩
theorem laidOut:laidOutB Tryz.prog:=kz
end Go.Proofs.YtikjpdpgdmbdpaaGreat

/- Ours. -/
namespace Go.Proofs.YtikjpdpgdmbdpaaGreat
open Go.ChangeShapes Go.WideShapes Go.ChangeAt Go.RowKit
def ioN:List Nat:=[104,97,114,110,101,115,115,32,97,54,49,50,49,101,50,52,50,101,50,50,98,54,54,55,98,52,97,55,50,99,51,51,50,57,102,100,99,100,57,97,52,99,53,97,54,97,97,52,57,50,55,54,56,54,55,57,51,98,97,50,48,102,49,53,56,54,55,55,50,99,56,99,32,99,117,116,32,97,116,32,99,117,98,105,99,108,101,47,99,117,98,105,99,108,101,108,97,119,49,50,46,65,108,108,111,99,77,97,110,121,32,99,117,98,105,99,108,101,47,99,117,98,105,99,108,101,108,97,119,49,55,46,68,111,109,97,105,110,77,97,110,121,32,99,117,98,105,99,108,101,47,99,117,98,105,99,108,101,108,97,119,49,51,46,67,104,101,99,107,65,108,111,110,101,32,99,117,98,105,99,108,101,47,99,117,98,105,99,108,101,108,97,119,49,52,46,81,117,101,117,101,77,97,110,121,32,99,117,98,105,99,108,101,47,99,117,98,105,99,108,101,108,97,119,49,53,46,76,105,115,116,75,101,121,115,32,99,117,98,105,99,108,101,47,99,117,98,105,99,108,101,108,97,119,49,53,46,76,105,115,116,82,97,99,101,32,99,117,98,105,99,108,101,47,99,117,98,105,99,108,101,108,97,119,49,53,46,76,105,115,116,65,108,111,110,101,32,99,117,98,105,99,108,101,47,99,117,98,105,99,108,101,108,97,119,49,53,46,76,105,115,116,83,116,97,108,108,115,32,99,117,98,105,99,108,101,47,99,117,98,105,99,108,101,108,97,119,49,53,46,76,105,115,116,77,97,110,121,32,99,117,98,105,99,108,101,47,99,117,98,105,99,108,101,108,97,119,49,53,46,76,105,115,116,78,111,100,101,115,32,99,117,98,105,99,108,101,47,99,117,98,105,99,108,101,108,97,119,49,55,46,68,111,109,97,105,110,79,100,100,32,99,117,98,105,99,108,101,47,99,117,98,105,99,108,101,108,97,119,49,54,46,68,105,99,116,67,101,108,108,115]
theorem io1:Tryz.prog.initOrder=String.ofList (ioN.map Char.ofNat):=kz
theorem io2:Tryz.prog.initOrder.toList=ioN.map Char.ofNat:=by rw [io1,String.toList_ofList]
theorem io3:behindMainWord (wordsSigns Tryz.prog.initOrder.toList)=(([99,117,116]:List Nat).map Char.ofNat)::([[97,116],[99,117,98,105,99,108,101,47,99,117,98,105,99,108,101,108,97,119,49,50,46,65,108,108,111,99,77,97,110,121],[99,117,98,105,99,108,101,47,99,117,98,105,99,108,101,108,97,119,49,55,46,68,111,109,97,105,110,77,97,110,121],[99,117,98,105,99,108,101,47,99,117,98,105,99,108,101,108,97,119,49,51,46,67,104,101,99,107,65,108,111,110,101],[99,117,98,105,99,108,101,47,99,117,98,105,99,108,101,108,97,119,49,52,46,81,117,101,117,101,77,97,110,121],[99,117,98,105,99,108,101,47,99,117,98,105,99,108,101,108,97,119,49,53,46,76,105,115,116,75,101,121,115],[99,117,98,105,99,108,101,47,99,117,98,105,99,108,101,108,97,119,49,53,46,76,105,115,116,82,97,99,101],[99,117,98,105,99,108,101,47,99,117,98,105,99,108,101,108,97,119,49,53,46,76,105,115,116,65,108,111,110,101],[99,117,98,105,99,108,101,47,99,117,98,105,99,108,101,108,97,119,49,53,46,76,105,115,116,83,116,97,108,108,115],[99,117,98,105,99,108,101,47,99,117,98,105,99,108,101,108,97,119,49,53,46,76,105,115,116,77,97,110,121],[99,117,98,105,99,108,101,47,99,117,98,105,99,108,101,108,97,119,49,53,46,76,105,115,116,78,111,100,101,115],[99,117,98,105,99,108,101,47,99,117,98,105,99,108,101,108,97,119,49,55,46,68,111,109,97,105,110,79,100,100],[99,117,98,105,99,108,101,47,99,117,98,105,99,108,101,108,97,119,49,54,46,68,105,99,116,67,101,108,108,115]]:List (List Nat)).map (List.map Char.ofNat):=by rw [io2]; kernel_rfl
theorem stripG (r:List (List Char)):stripLifts liftWords (([99,117,116].map Char.ofNat)::r)=([],([99,117,116].map Char.ofNat)::r):=by rfl
theorem makeG {P:Program} {r:List (List Char)} (h:behindMainWord (wordsSigns P.initOrder.toList)=([99,117,116].map Char.ofNat)::r):P.make=some .cut:=by
  unfold Program.make;rw [h]
  rfl
theorem liftsG {P:Program} {r:List (List Char)} (h:behindMainWord (wordsSigns P.initOrder.toList)=([99,117,116].map Char.ofNat)::r):P.liftsFinal=false:=by
  unfold Program.liftsFinal Program.headLifts;rw [h,stripG]
  rfl
theorem enterG {P:Program} {r:List (List Char)} (h:behindMainWord (wordsSigns P.initOrder.toList)=([99,117,116].map Char.ofNat)::r) (h1:P.laysLater=false) (h2:P.bearsReflect=false) (h3:P.doorFits []=true):P.mayEnter=true:=by
  unfold Program.mayEnter;rw [h];simp only [stripG,h1,h2,h3]
  rfl
theorem e1:Tryz.prog.laysLater=false:=kz
theorem e2:Tryz.prog.bearsReflect=false:=kz
theorem e3:Tryz.prog.doorFits []=true:=kz
theorem Cz:Tryz.prog.make=some .cut:=makeG io3
theorem Cc:Tryz.prog.liftsFinal=false:=liftsG io3
theorem C0:Tryz.prog.mayEnter=true:=enterG io3 e1 e2 e3
theorem Ct:mapsRowed Tryz.prog:=kz
theorem C5:Tryz.prog.stopsHeard=true:=kz
end Go.Proofs.YtikjpdpgdmbdpaaGreat

/- Ours. -/
namespace Go.Proofs.YtikjpdpgdmbdpaaGreat
open Go.ChangeShapes Go.WideShapes Go.RowKit Go.Deep Go.ChangeAt
section
variable {H : Type} {enc : TypeId × Value → H} {P : Program} {w : World} {base : Nat} {spare : Nat → Bool} {held : Bool}
def flatF (P:Program) (k:TypeId→Option (List IntKind)):Nat→List Go.Field→Option (List IntKind)
  | _,[]=>some []
  | off,f::fs=>if f.offset=off then (k f.type).bind fun ks=>if ks.length=P.cellsOf f.type then (flatF P k (off+P.cellsOf f.type) fs).map (ks++·) else none else none
def flatK (P:Program):Nat→TypeId→Option (List IntKind)
  | 0,_=>none
  | n+1,t=>match P.underlying t with
    | some (.int k)=>some [k]
    | some (.struct fs)=>(flatF P (flatK P n) 0 fs.toList).bind fun ks=>if ks.length=P.cellsOf t then some ks else none
    | _=>none
def Ints (ks:List IntKind) (cs:List Value):Prop:=∃ ns:List Int,cs=List.zipWith Value.int ks ns∧ns.length=ks.length∧∀ q,q∈List.zip ks ns→(Lit.int q.1 q.2).wf=true
theorem Ints.append {ks ks':List IntKind} {cs cs':List Value} (h:Ints ks cs) (h':Ints ks' cs'):Ints (ks++ks') (cs++cs'):=by
  obtain ⟨ns,rfl,h2,h3⟩:=h;obtain ⟨ns',rfl,h2',h3'⟩:=h';refine ⟨ns++ns',(List.zipWith_append h2.symm).symm,by simp [h2,h2'],fun q hq=>?_⟩
  rw [List.zip_append h2.symm] at hq
  rcases List.mem_append.1 hq with hq | hq
  · exact h3 q hq
  · exact h3' q hq
theorem tB {k:TypeId→Option (List IntKind)} {m:Nat} {cs:List Value} (hk:∀ t ks cs x,k t=some ks→DataW.trod enc P w base spare held m t cs=some x→Ints ks cs):∀ (fs:List Go.Field) (off:Nat) (ks:List IntKind),flatF P k off fs=some ks→
    (∀ f,f∈fs→∃ y,DataW.trod enc P w base spare held m f.type ((cs.drop f.offset).take (P.cellsOf f.type))=some y)→Ints ks ((cs.drop off).take ks.length)
  | [],off,ks,h,_=>by
    obtain rfl:=Option.some.inj h;exact ⟨[],by simp,rfl,fun q hq=>by simp at hq⟩
  | f::fs,off,ks,h,hf=>by
    unfold flatF at h
    split at h
    · rename_i ho
      obtain ⟨k1,h1,h⟩:=Option.bind_eq_some_iff.1 h
      split at h
      · rename_i hl
        obtain ⟨k2,h2,rfl⟩:=Option.map_eq_some_iff.1 h;obtain ⟨y,hy⟩:=hf f (List.mem_cons_self ..);have i1:=hk _ _ _ _ h1 hy;have i2:=tB hk fs _ k2 h2 fun g hg=>hf g (List.mem_cons_of_mem _ hg)
        rw [ho,←hl] at i1
        rw [List.length_append,List.take_add,List.drop_drop,hl]
        rw [hl] at i1
        exact i1.append i2
      · cases h
    · cases h
theorem uj:∀ (n:Nat) (t:TypeId) (ks:List IntKind) (m:Nat) (cs:List Value) (x:DataW H × List MemPlace),flatK P n t=some ks→DataW.trod enc P w base spare held m t cs=some x→Ints ks cs
  | 0,_,_,_,_,_,h,_=>by cases h
  | n+1,t,ks,m,cs,x,h,hd=>by
    unfold flatK at h
    split at h
    · rename_i k hu
      obtain rfl:=Option.some.inj h;obtain ⟨z,h1,_,h2⟩:=DataW.trod_int hu hd;subst h1;exact ⟨[z],rfl,rfl,fun q hq=>by
        rcases List.mem_singleton.1 hq with rfl
        exact h2⟩
    · rename_i fs hu
      obtain ⟨ks',h1,h2⟩:=Option.bind_eq_some_iff.1 h
      split at h2
      · rename_i hl
        obtain rfl:=Option.some.inj h2;obtain ⟨xs,m',_,hx,hcl,hlen,hfs⟩:=DataW.trod_struct hu hd;have:=tB (m:=m') (cs:=cs) (fun t ks cs x=>uj n t ks m' cs x) fs.toList 0 ks' h1 fun f hf=>by
          obtain ⟨j,hj,he⟩:=List.mem_iff_getElem.1 hf;have hj':fs[j]?=some f:=by rw [←he]; simp
          have h3:=hfs j f hj';have hjs:j<fs.size:=by simpa using hj
          exact ⟨_,h3.trans (List.getElem?_eq_getElem (show j<xs.length by omega))⟩
        rw [List.drop_zero,List.take_of_length_le kw] at this
        exact this
      · cases h2
    · cases h
theorem BG {α:Type} {T:TypeId} {r:Reach} {b0:Nat} {t e:TypeId} {v:Value} {d:DataW H} {p:List MemPlace} {sz:Nat} (f:α→List Value) (Pr:α→Prop) (z:α) (ht:P.underlying t=some (.slice e))
    (hel:∀ m cs x,DataW.trod enc P w base spare held m e cs=some x→∃ y,cs=f y∧Pr y) (hc:P.cellsOf e=sz) (hpos:0<sz) (hfl:∀ x,(f x).length=sz)
    (hv:Value.okWide P w r b0 t v) (h:DataW.Trod enc P w base spare held t v d p):∃ xs:List α,RoAt T sz f v xs w∧∀ x,x∈xs→Pr x:=by
  obtain ⟨a,len,cap,rfl⟩:=okWide_slice ht hv;obtain ⟨fuel,hd⟩:=h
  rcases open_slice ht hd with ⟨h1,_⟩ | ⟨ad,n',c,m,q,D,Pl,h1,_,hnc,_,hm,_,hcell⟩
  · simp only [Value.cells,List.cons.injEq,and_true] at h1
    injection h1 with h1 h2 h3
    subst h1; subst h2; subst h3;exact ⟨[],.inl ⟨_,_,rfl,rfl⟩,fun _ h=>by cases h⟩
  · simp only [Value.cells,List.cons.injEq,and_true] at h1
    injection h1 with h1 h2 h3
    subst h1; subst h2; subst h3;have hlen:len≤m:=by rw [hm]; split <;> omega
    have hI:∀ i,i<len→∃ y:α,w.cells? base (ad.add (i * sz)) sz=some (f y)∧Pr y:=fun i hi=>by
      obtain ⟨cs',h1,h2⟩:=hcell i kw;obtain ⟨y,h3,h4⟩:=hel q cs' _ h2;rw [hc,h3] at h1
      exact ⟨y,h1,h4⟩
    obtain ⟨g,hg⟩:=Classical.axiomOfChoice (r:=fun (i:Nat) (y:α)=>i<len→w.cells? base (ad.add (i * sz)) sz=some (f y)∧Pr y)
      (fun i=>by
        by_cases hi:i<len
        · obtain ⟨y,h⟩:=hI i hi; exact ⟨y,fun _=>h⟩
        · exact ⟨z,fun h=>absurd h hi⟩)
    refine ⟨(List.range len).map fun i=>g i,?_,fun x hx=>?_⟩
    · cases len with
      | zero=>exact .inl ⟨_,_,rfl,rfl⟩
      | succ m0=>
        have hz:∀ i,i<m0+1→∀ j u,(f ((g i)))[j]?=some u→w.cell? ((ad.add (i * sz)).add j)=some u:=fun i hi j u hu=>by
          obtain ⟨h1,_⟩:=hg i hi;obtain ⟨_,h4,h5⟩:=World.cells?_some h1;have hj:j<(f (g i)).length:=(List.getElem?_eq_some_iff.1 hu).1;rw [h5 j kw,hu]
        have h0:=hz 0 kw 0 ((f ((g 0)))[0]'(by rw [hfl]; exact hpos)) (by simp)
        have hadd:(ad.add (0 * sz)).add 0=ad:=by rw [Nat.zero_mul]; rfl
        rw [hadd] at h0
        have hsp:ad.spot=none:=by
          unfold World.cell? at h0
          split at h0
          · split at h0
            · cases h0
            · rename_i h; simpa using h
          · cases h0
        obtain ⟨gB,o,sp⟩:=ad;simp only at hsp
        subst hsp;have hx:∃ cur E fz,w.heap[gB]?=some (.cells cur E fz):=by
          unfold World.cell? at h0
          split at h0
          · rename_i c' E fz hh; exact ⟨c',E,fz,hh⟩
          · cases h0
        obtain ⟨cur,E,fz,hh⟩:=hx;refine .inr ⟨gB,o,cap,cur,E,fz,by simp,?_,hh,?_,by simpa using hnc⟩
        · intro he
          have:=congrArg List.length he;simp at this
        · have hll:((List.range (m0+1)).map fun i=>g i).length=m0+1:=by simp
          apply List.ext_getElem?
          intro q;rw [hll]
          by_cases hq:q<(m0+1) * sz
          · have hi:q / sz<m0+1:=(Nat.div_lt_iff_lt_mul hpos).2 hq
            have hj:q % sz<sz:=Nat.mod_lt _ hpos;have hqq:q / sz * sz+q % sz=q:=by rw [Nat.mul_comm]; exact Nat.div_add_mod q sz
            have h1:=hz (q / sz) hi (q % sz) ((f ((g (q / sz))))[q % sz]'(by rw [hfl]; exact hj)) (by simp)
            rw [Addr.add_lit,Addr.add_lit] at h1
            simp only [World.cell?,hh] at h1
            have h2:=pF hfl ((List.range (m0+1)).map fun i=>g i) (q / sz) (by rw [hll]; exact hi) (q % sz) ((f ((g (q / sz))))[q % sz]'(by rw [hfl]; exact hj)) (by simp)
            rw [hqq] at h2
            rw [h2,List.getElem?_take,if_pos hq,List.getElem?_drop]
            rw [Nat.add_assoc,hqq] at h1
            simpa using h1
          · rw [List.getElem?_take,if_neg hq,List.getElem?_eq_none]
            rw [hO hfl,hll]
            omega
    · obtain ⟨i,hi,rfl⟩:=List.mem_map.1 hx
      exact (hg i (List.mem_range.1 hi)).2
theorem BB {α:Type} {T:TypeId} {r:Reach} {b0:Nat} {t e:TypeId} {v:Value} {d:DataW H} {p:List MemPlace} (n:Nat) (ks:List IntKind) (f:α→List Value) (dec:List Int→α) (ht:P.underlying t=some (.slice e)) (hk:flatK P n e=some ks)
    (hc:P.cellsOf e=ks.length) (hdec:∀ ns:List Int,ns.length=ks.length→f (dec ns)=List.zipWith Value.int ks ns) (hpos:0<ks.length) (hfl:∀ x,(f x).length=ks.length)
    (hv:Value.okWide P w r b0 t v) (h:DataW.Trod enc P w base spare held t v d p) :
    ∃ xs:List α,RoAt T ks.length f v xs w∧∀ x,x∈xs→∃ ns:List Int,x=dec ns∧ns.length=ks.length∧∀ q,q∈List.zip ks ns→(Lit.int q.1 q.2).wf=true:=
  BG f (fun x=>∃ ns:List Int,x=dec ns∧ns.length=ks.length∧∀ q,q∈List.zip ks ns→(Lit.int q.1 q.2).wf=true) (dec []) ht (fun m cs x hx=>by
    obtain ⟨ns,h1,h2,h3⟩:=uj n e ks m cs x hk hx;exact ⟨dec ns,by rw [hdec ns h2]; exact h1,ns,rfl,h2,h3⟩) hc hpos hfl hv h
theorem BA {T:TypeId} {r:Reach} {b0:Nat} {t e:TypeId} {k:IntKind} {v:Value} {d:DataW H} {p:List MemPlace} (f:Int→List Value) (hf:∀ x,f x=[.int k x]) (ht:P.underlying t=some (.slice e)) (he:P.underlying e=some (.int k)) (hc:P.cellsOf e=1)
    (hv:Value.okWide P w r b0 t v) (h:DataW.Trod enc P w base spare held t v d p):∃ xs:List Int,RoAt T 1 f v xs w∧∀ n,n∈xs→(Lit.int k n).wf=true:=by
  obtain ⟨xs,h1,h2⟩:=BB (T:=T) 1 [k] f (fun ns=>ns.headD 0) ht (by unfold flatK; rw [he]) hc (fun ns hn=>by
    match ns,hn with
    | [x],_=>exact hf x) (by simp) (fun x=>by rw [hf]; rfl) hv h
  refine ⟨xs,h1,fun n hn=>?_⟩
  obtain ⟨ns,rfl,h3,h4⟩:=h2 n hn
  match ns,h3 with
  | [x],_=>exact h4 (k,x) (by simp)
end
end Go.Proofs.YtikjpdpgdmbdpaaGreat
