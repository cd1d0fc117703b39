/- Some of our texts, one behind the other. -/
import Derived.Test.YtikjpdpgdmbdpaaGreatLrM26
import Derived.Test.YtikjpdpgdmbdpaaGreatLrLawLR
import Derived.WalkKit
import Derived.ProofKit
import Derived.OpenShut
import Derived.ShutString
import Derived.ChangeOld
import Derived.Below
import Derived.Carry
import Derived.SizedLaws
import Derived.Deep.Slices
import Derived.Deep.Fields
import Derived.ChangeSame
import Derived.Test.YtikjpdpgdmbdpaaGreatRows
import Derived.ChangeSlices
import Derived.Test.YtikjpdpgdmbdpaaGreatLrM4
set_option linter.all false
/- Ours. -/
namespace Go.Proofs.YtikjpdpgdmbdpaaGreat
open Go.RowKit
theorem Cs:(D.gH 4000 pr).map (·.ws)=some lr0:=by decide +kernel
theorem mP (j:Int) (h:¬ (26≤j∧j<56∧(j - 26) % 5=2)):keyB pr j=false:=fq fun h'=>h (by rw [qK,show pr.nodes=6 from rfl] at h'; exact h')
theorem keyed {K:Int} (h:0≤K):∃ K0,(K0=0∨K0=1)∧CR K K0 0 0:=by
  by_cases e:K=0
  · exact ⟨0,.inl rfl,.inl ⟨e.symm,rfl⟩⟩
  · exact ⟨1,.inr rfl,.inr ⟨rfl,kw,kw⟩⟩
theorem Da {K K0:Int} (h:CR K K0 0 0):WR pr K K0 lr0 lr0:=⟨rfl,fun j hj=>by
  unfold VR
  split
  · rename_i hk
    have hlt:26≤j∧j<56∧(j - 26) % 5=2:=Classical.byContradiction fun e=>by rw [mP j e] at hk; cases hk
    have hz:([28,33,38,43,48,53]:List Int).all (fun j=>rd lr0 j==0)=true:=by decide +kernel
    have:=List.all_eq_true.1 hz j (by simp only [List.mem_cons,List.not_mem_nil,or_false]; omega)
    rw [beq_iff_eq.1 this]
    exact h
  · rfl⟩
def QA (K:Int) (ra rb:Res) (ws:List Int):Prop:=∃ K0 v ws0,(K0=0∨K0=1)∧CR K K0 0 0∧((v=1∧ra=⟨0,0⟩∧rb=⟨7,0⟩)∨(v=2∧rb=⟨0,0⟩∧ra=⟨7,0⟩))∧WR pr K K0 ws ws0∧(ws0=lrB K0 v∨ws0=lrC K0 v)
theorem Dc {K v:Int} {ra rb:Res} (h:finA ra rb (lrB K v)=true):(v=1∧ra=⟨0,0⟩∧rb=⟨7,0⟩)∨(v=2∧rb=⟨0,0⟩∧ra=⟨7,0⟩):=by
  have h:((v==1&&ra==⟨0,0⟩&&rb==⟨7,0⟩)||(v==2&&rb==⟨0,0⟩&&ra==⟨7,0⟩))=true:=h;simpa [and_assoc] using h
theorem Dg {K v:Int} {ra rb:Res} (h:finA ra rb (lrC K v)=true):(v=1∧ra=⟨0,0⟩∧rb=⟨7,0⟩)∨(v=2∧rb=⟨0,0⟩∧ra=⟨7,0⟩):=by
  have h:((v==1&&ra==⟨0,0⟩&&rb==⟨7,0⟩)||(v==2&&rb==⟨0,0⟩&&ra==⟨7,0⟩))=true:=h;simpa [and_assoc] using h
theorem iX:keyB pr 2=false:=mP 2 kw
theorem addsS {K:Int} (hK:0≤K):Safe (QA K) 100 (lrA K 1 0) (lrA K 2 1) lr0:=by
  obtain ⟨K0,hk,hcr⟩:=keyed hK;have main:∀ {W:List (List Int)},addsW K0=some W→(∀ ws,ws∈W→∃ v,ws=lrB K0 v∨ws=lrC K0 v)→Safe (QA K) 100 (lrA K 1 0) (lrA K 2 1) lr0:=by
    intro W hW hv;have h:=(oX (a:=lrA K0 1 0) (b:=lrA K0 2 1) (fun t ht=>by
      rcases List.mem_cons.1 ht with rfl | ht
      · exact ⟨rfl,rfl⟩
      · cases ht) hW _ (List.mem_cons_self ..)).safe
    refine (h.transport (p:=pr) (K:=K) (K0:=K0) (ta:=lrA K 1 0) (tb:=lrA K 2 1) (tsAdd prF hcr _ _ _ _ iX) (tsAdd prF hcr _ _ _ _ iX) (Da hcr)).mono ?_;rintro ra rb ws ⟨_,_,ws0,rfl,rfl,hw,hf,hm⟩;obtain ⟨v,e⟩:=hv ws0 hm;refine ⟨K0,v,ws0,hk,hcr,?_,hw,e⟩
    rcases e with rfl | rfl
    · exact Dc hf
    · exact Dg hf
  rcases hk with rfl | rfl
  · refine main FK fun ws h=>?_
    simp only [List.mem_cons,List.not_mem_nil,or_false] at h
    rcases h with rfl | rfl | rfl | rfl
    · exact ⟨2,.inl rfl⟩
    · exact ⟨1,.inr rfl⟩
    · exact ⟨2,.inr rfl⟩
    · exact ⟨1,.inl rfl⟩
  · refine main Fv fun ws h=>?_
    simp only [List.mem_cons,List.not_mem_nil,or_false] at h
    rcases h with rfl | rfl | rfl | rfl
    · exact ⟨2,.inl rfl⟩
    · exact ⟨1,.inr rfl⟩
    · exact ⟨2,.inr rfl⟩
    · exact ⟨1,.inl rfl⟩
def QD (v:Int) (ra rb:Res) (ws:List Int):Prop:=((ra=⟨0,v⟩∧rb=⟨6,0⟩)∨(ra=⟨6,0⟩∧rb=⟨0,v⟩))∧rd ws 2=0∧ws.length=56
theorem delsS {K K0 v:Int} {ws ws0:List Int} (hcr:CR K K0 0 0) (hk:K0=0∨K0=1) (hv:v=1∨v=2) (hw:WR pr K K0 ws ws0) (h0:ws0=lrB K0 v∨ws0=lrC K0 v):Safe (QD v) 100 (lrD K 0) (lrD K 1) ws:=by
  have hl:ws.length=56:=by rw [hw.len]; rcases h0 with rfl | rfl <;> rfl
  have main:delsW K0 v ws0=true→Safe (QD v) 100 (lrD K 0) (lrD K 1) ws:=by
    intro h;obtain ⟨W,hW⟩:=Option.isSome_iff_exists.1 h;have h:=(oX (a:=lrD K0 0) (b:=lrD K0 1) (fun t ht=>by
      rcases List.mem_cons.1 ht with rfl | ht
      · exact ⟨rfl,rfl⟩
      · cases ht) hW _ (List.mem_cons_self ..)).safe
    refine ((h.transport (p:=pr) (K:=K) (K0:=K0) (ta:=lrD K 0) (tb:=lrD K 1) (tsDel prF hcr _ _ _ iX _) (tsDel prF hcr _ _ _ iX _) hw).lenW hl).mono ?_;rintro ra rb ws ⟨⟨_,_,ws0,rfl,rfl,hw,hf,_⟩,hl⟩;unfold finD at hf
    simp only [Bool.and_eq_true,Bool.or_eq_true,beq_iff_eq] at hf
    exact ⟨hf.1,by rw [(hw.at_ 2 kw).same iX]; exact hf.2,hl⟩
  refine main ?_
  rcases hk with rfl | rfl <;> rcases hv with rfl | rfl <;> rcases h0 with rfl | rfl
  · exact D6
  · exact Dh
  · exact De
  · exact Df
  · exact Dk
  · exact D0
  · exact Dd
  · exact Di
theorem D5 (fu:Nat) (a b:Nat × T Res) (M:Mem) (l:List Bool):D.jf fu a b M l=raceG ⟨0,0⟩ fu a b M l:=rfl
theorem tI {ws:List Int} {c:Int} {l:List Int} (hl:ws.length=56) (hL:bu pr ws 2 l) (hle:(l.length:Int)≤6):D.dS 4000 pr ⟨ws,c⟩ 0 2=some (ents pr ws l):=
  Bw prF (show (6:Int)≤1000 by omega) (M:=⟨ws,c⟩) (show (ws.length:Int)=D.bG pr by rw [xw,hl]; rfl) (by rw [xw]; omega) hL hle kw
theorem qw (q f:Int):fp pr q f=26+q * 5+2+f:=by unfold fp sp; rw [qK]
theorem BQ {K K0 v:Int} {ws ws0:List Int} (hw:WR pr K K0 ws ws0) (h0:ws0=lrB K0 v∨ws0=lrC K0 v) {c:Int}:D.dS 4000 pr ⟨ws,c⟩ 0 2=some [⟨K,v⟩]:=by
  have hl:ws.length=56:=by rw [hw.len]; rcases h0 with rfl | rfl <;> rfl
  have key:∀ q:Int,(q=0∨q=1)→rd ws0 2=(q+1) * 2→rd ws0 (26+q * 5+4)=0→rd ws0 (26+q * 5+2)=K0→rd ws0 (26+q * 5+3)=v→D.dS 4000 pr ⟨ws,c⟩ 0 2=some [⟨K,v⟩]:=by
    intro q hq e1 e2 e3 e4;have g1:rd ws 2=(q+1) * 2:=by rw [(hw.at_ 2 kw).same iX,e1]
    have g2:rd ws (26+q * 5+4)=0:=by rw [(hw.at_ _ kw).same (mP _ kw),e2]
    have g4:rd ws (26+q * 5+3)=v:=by rw [(hw.at_ _ kw).same (mP _ kw),e4]
    have g3:rd ws (26+q * 5+2)=K:=by
      have h3:=hw.at_ (26+q * 5+2) kw
      unfold VR at h3
      split at h3
      · exact h3.eq.2 e3
      · rename_i hk
        exfalso
        apply hk
        unfold keyB;rw [qK,show pr.nodes=6 from rfl]
        simp only [Bool.and_eq_true,decide_eq_true_eq]
        omega
    have hL:bu pr ws 2 [q]:=⟨g1,by show 0≤q∧q<6; omega,by show rd ws (fp pr q 2)=0; rw [qw,show 26+q * 5+2+2=26+q * 5+4 by omega]; exact g2⟩
    rw [tI hl hL (by simp)]
    show some [(⟨rd ws (fp pr q 0),rd ws (fp pr q 1)⟩:Entry)]=_
    rw [qw,qw,show 26+q * 5+2+0=26+q * 5+2 by omega,show 26+q * 5+2+1=26+q * 5+3 by omega,g3,g4]
  rcases h0 with rfl | rfl
  · exact key 1 (.inr rfl) rfl rfl rfl rfl
  · exact key 0 (.inl rfl) rfl rfl rfl rfl
theorem AC (k:Int) (a b:List Bool) (hkb:0≤k∧k≤18446744073709551615):∃ fu,Wk.D.l5 fu k a b=some true:=by
  refine ⟨4000,?_⟩;unfold Wk.D.l5;rw [Cz];simp only [Option.bind_some,Bool.not_true,cond_false];cases ha:decide ((a.length:Int) > 60)
  case true=>rfl
  cases hb:decide ((b.length:Int) > 60)
  case true=>rfl
  simp only [decide_eq_false_iff_not] at ha hb
  simp only [cond_false]
  have hcell:D.bn pr 0 0=2:=qh prF ke (c:=0) kw
  rw [show (⟨6,2,7,1,1,9⟩:Plan)=pr from rfl,hcell]
  obtain ⟨M,hM,hM0⟩:∃ M,D.gH 4000 pr=some M∧M.ws=lr0:=by
    have:=Cs;cases h:D.gH 4000 pr with
    | none=>rw [h] at this; cases this
    | some M=>rw [h] at this; exact ⟨M,rfl,Option.some.inj this⟩
  rw [hM]
  simp only [Option.bind_some,D5]
  have hA:=addsS hkb.1;rw [←hM0] at hA
  obtain ⟨ra,rb,M1,hr,K0,v,ws0,hk0,hcr,hres,hw,hws⟩:=uI (z:=(⟨0,0⟩:Res)) (fu:=4000) (picks:=a) hA kw kw kw;have hr':raceG (⟨0,0⟩:Res) 4000 (4000,D.dm (4000+1) (⟨pr,0,0⟩:Seat) 2 k 1) (4000,D.dm (4000+1) (⟨pr,0,1⟩:Seat) 2 k 2) M a=some (ra,rb,true,M1):=hr;rw [hr'];simp only [Option.bind_some];have he:=BQ (c:=M1.cnt) hw hws;rw [show (⟨M1.ws,M1.cnt⟩:Mem)=M1 from rfl] at he
  rw [he]
  have hv:v=1∨v=2:=by rcases hres with ⟨h,_⟩ | ⟨h,_⟩ <;> simp [h]
  obtain ⟨rc,rd',M2,hs,hres2,hz,hl2⟩:=uI (z:=(⟨0,0⟩:Res)) (fu:=4000) (picks:=b) (delsS hcr hk0 hv hw hws) kw kw kw;have hs':raceG (⟨0,0⟩:Res) 4000 (4000,D.dK (4000+1) (4000+1) (⟨pr,0,0⟩:Seat) 2 k) (4000,D.dK (4000+1) (4000+1) (⟨pr,0,1⟩:Seat) 2 k) M1 b=some (rc,rd',true,M2):=hs;have he2:D.dS 4000 pr M2 0 2=some []:=tI (c:=M2.cnt) (l:=[]) hl2 hz (by simp);have hg:getI ([⟨k,v⟩]:List Entry) 0=some ⟨k,v⟩:=rfl;have hlen:((([⟨k,v⟩]:List Entry).length:Int) !=1)=false:=rfl;have hle:((([]:List Entry).length:Int)==0)=true:=rfl;have hkk:((⟨k,v⟩:Entry).key !=k)=false:=by simp
  simp only [Option.bind_some,Bool.not_true,cond_false,hlen,hg,hkk]
  have h60:∀ x:Int,((⟨6,0⟩:Res)==⟨0,x⟩)=false:=fun x=>rfl
  rcases hres with ⟨rfl,rfl,rfl⟩ | ⟨rfl,rfl,rfl⟩
  · have c1:((1:Int)==1)=true:=rfl
    have c2:((1:Int)==2)=false:=rfl;have c3:(!((⟨0,0⟩:Res)==⟨0,0⟩))=false:=rfl;have c4:(!((⟨7,0⟩:Res)==⟨7,0⟩))=false:=rfl;have c5:decide ((1:Int) > 2)=false:=rfl;simp only [c1,c2,c3,c4,c5,cond_true,cond_false,Option.bind_some,hs',he2]
    rcases hres2 with ⟨rfl,rfl⟩ | ⟨rfl,rfl⟩
    · rfl
    · rfl
  · have c1:((2:Int)==1)=false:=rfl
    have c2:((2:Int)==2)=true:=rfl;have c3:(!((⟨0,0⟩:Res)==⟨0,0⟩))=false:=rfl;have c4:(!((⟨7,0⟩:Res)==⟨7,0⟩))=false:=rfl;have c5:decide ((2:Int) > 2)=false:=rfl;simp only [c1,c2,c3,c4,c5,cond_true,cond_false,Option.bind_some,hs',he2]
    rcases hres2 with ⟨rfl,rfl⟩ | ⟨rfl,rfl⟩
    · rfl
    · rfl
end Go.Proofs.YtikjpdpgdmbdpaaGreat

/- Ours. -/
namespace Go.Proofs.YtikjpdpgdmbdpaaGreat
open Go.ChangeShapes Go.WideShapes Go.RowKit Go.Deep Go.ChangeAt
section
variable {H : Type} {enc : TypeId × Value → H} {P : Program} {w : World} {base : Nat} {spare : Nat → Bool} {held : Bool}
end
theorem laidOut:laidOutB Tryz.prog:=kz
end Go.Proofs.YtikjpdpgdmbdpaaGreat

/- Ours. -/
namespace Go.Proofs.YtikjpdpgdmbdpaaGreat
open Go.ChangeShapes Go.WideShapes Go.ChangeAt Go.RowKit
def ioN:List Nat:=[104,97,114,110,101,115,115,32,97,54,49,50,49,101,50,52,50,101,50,50,98,54,54,55,98,52,97,55,50,99,51,51,50,57,102,100,99,100,57,97,52,99,53,97,54,97,97,52,57,50,55,54,56,54,55,57,51,98,97,50,48,102,49,53,56,54,55,55,50,99,56,99,32,99,117,116,32,97,116,32,99,117,98,105,99,108,101,47,99,117,98,105,99,108,101,108,97,119,49,50,46,65,108,108,111,99,77,97,110,121,32,99,117,98,105,99,108,101,47,99,117,98,105,99,108,101,108,97,119,49,55,46,68,111,109,97,105,110,77,97,110,121,32,99,117,98,105,99,108,101,47,99,117,98,105,99,108,101,108,97,119,49,51,46,67,104,101,99,107,65,108,111,110,101,32,99,117,98,105,99,108,101,47,99,117,98,105,99,108,101,108,97,119,49,52,46,81,117,101,117,101,77,97,110,121,32,99,117,98,105,99,108,101,47,99,117,98,105,99,108,101,108,97,119,49,53,46,76,105,115,116,75,101,121,115,32,99,117,98,105,99,108,101,47,99,117,98,105,99,108,101,108,97,119,49,53,46,76,105,115,116,82,97,99,101,32,99,117,98,105,99,108,101,47,99,117,98,105,99,108,101,108,97,119,49,53,46,76,105,115,116,65,108,111,110,101,32,99,117,98,105,99,108,101,47,99,117,98,105,99,108,101,108,97,119,49,53,46,76,105,115,116,83,116,97,108,108,115,32,99,117,98,105,99,108,101,47,99,117,98,105,99,108,101,108,97,119,49,53,46,76,105,115,116,77,97,110,121,32,99,117,98,105,99,108,101,47,99,117,98,105,99,108,101,108,97,119,49,53,46,76,105,115,116,78,111,100,101,115,32,99,117,98,105,99,108,101,47,99,117,98,105,99,108,101,108,97,119,49,55,46,68,111,109,97,105,110,79,100,100,32,99,117,98,105,99,108,101,47,99,117,98,105,99,108,101,108,97,119,49,54,46,68,105,99,116,67,101,108,108,115]
theorem io1:Tryz.prog.initOrder=String.ofList (ioN.map Char.ofNat):=kz
theorem io2:Tryz.prog.initOrder.toList=ioN.map Char.ofNat:=by rw [io1,String.toList_ofList]
theorem io3:behindMainWord (wordsSigns Tryz.prog.initOrder.toList)=(([99,117,116]:List Nat).map Char.ofNat)::([[97,116],[99,117,98,105,99,108,101,47,99,117,98,105,99,108,101,108,97,119,49,50,46,65,108,108,111,99,77,97,110,121],[99,117,98,105,99,108,101,47,99,117,98,105,99,108,101,108,97,119,49,55,46,68,111,109,97,105,110,77,97,110,121],[99,117,98,105,99,108,101,47,99,117,98,105,99,108,101,108,97,119,49,51,46,67,104,101,99,107,65,108,111,110,101],[99,117,98,105,99,108,101,47,99,117,98,105,99,108,101,108,97,119,49,52,46,81,117,101,117,101,77,97,110,121],[99,117,98,105,99,108,101,47,99,117,98,105,99,108,101,108,97,119,49,53,46,76,105,115,116,75,101,121,115],[99,117,98,105,99,108,101,47,99,117,98,105,99,108,101,108,97,119,49,53,46,76,105,115,116,82,97,99,101],[99,117,98,105,99,108,101,47,99,117,98,105,99,108,101,108,97,119,49,53,46,76,105,115,116,65,108,111,110,101],[99,117,98,105,99,108,101,47,99,117,98,105,99,108,101,108,97,119,49,53,46,76,105,115,116,83,116,97,108,108,115],[99,117,98,105,99,108,101,47,99,117,98,105,99,108,101,108,97,119,49,53,46,76,105,115,116,77,97,110,121],[99,117,98,105,99,108,101,47,99,117,98,105,99,108,101,108,97,119,49,53,46,76,105,115,116,78,111,100,101,115],[99,117,98,105,99,108,101,47,99,117,98,105,99,108,101,108,97,119,49,55,46,68,111,109,97,105,110,79,100,100],[99,117,98,105,99,108,101,47,99,117,98,105,99,108,101,108,97,119,49,54,46,68,105,99,116,67,101,108,108,115]]:List (List Nat)).map (List.map Char.ofNat):=by rw [io2]; kernel_rfl
theorem stripG (r:List (List Char)):stripLifts liftWords (([99,117,116].map Char.ofNat)::r)=([],([99,117,116].map Char.ofNat)::r):=by rfl
theorem makeG {P:Program} {r:List (List Char)} (h:behindMainWord (wordsSigns P.initOrder.toList)=([99,117,116].map Char.ofNat)::r):P.make=some .cut:=by
  unfold Program.make;rw [h]
  rfl
theorem liftsG {P:Program} {r:List (List Char)} (h:behindMainWord (wordsSigns P.initOrder.toList)=([99,117,116].map Char.ofNat)::r):P.liftsFinal=false:=by
  unfold Program.liftsFinal Program.headLifts;rw [h,stripG]
  rfl
theorem enterG {P:Program} {r:List (List Char)} (h:behindMainWord (wordsSigns P.initOrder.toList)=([99,117,116].map Char.ofNat)::r) (h1:P.laysLater=false) (h2:P.bearsReflect=false) (h3:P.doorFits []=true):P.mayEnter=true:=by
  unfold Program.mayEnter;rw [h];simp only [stripG,h1,h2,h3]
  rfl
theorem e1:Tryz.prog.laysLater=false:=kz
theorem e2:Tryz.prog.bearsReflect=false:=kz
theorem e3:Tryz.prog.doorFits []=true:=kz
theorem CN:Tryz.prog.make=some .cut:=makeG io3
theorem Ce:Tryz.prog.liftsFinal=false:=liftsG io3
theorem Cc:Tryz.prog.mayEnter=true:=enterG io3 e1 e2 e3
theorem CE:mapsRowed Tryz.prog:=kz
theorem C0:Tryz.prog.stopsHeard=true:=kz
end Go.Proofs.YtikjpdpgdmbdpaaGreat

/- Ours. -/
namespace Go.Proofs.YtikjpdpgdmbdpaaGreat
open Go.ChangeShapes Go.WideShapes Go.RowKit Go.Deep Go.ChangeAt
section
variable {H : Type} {enc : TypeId × Value → H} {P : Program} {w : World} {base : Nat} {spare : Nat → Bool} {held : Bool}
def Ints (ks:List IntKind) (cs:List Value):Prop:=∃ ns:List Int,cs=List.zipWith Value.int ks ns∧ns.length=ks.length∧∀ q,q∈List.zip ks ns→(Lit.int q.1 q.2).wf=true
theorem Ints.append {ks ks':List IntKind} {cs cs':List Value} (h:Ints ks cs) (h':Ints ks' cs'):Ints (ks++ks') (cs++cs'):=by
  obtain ⟨ns,rfl,h2,h3⟩:=h;obtain ⟨ns',rfl,h2',h3'⟩:=h';refine ⟨ns++ns',(List.zipWith_append h2.symm).symm,by simp [h2,h2'],fun q hq=>?_⟩
  rw [List.zip_append h2.symm] at hq
  rcases List.mem_append.1 hq with hq | hq
  · exact h3 q hq
  · exact h3' q hq
theorem BJ {α:Type} {T:TypeId} {r:Reach} {b0:Nat} {t e:TypeId} {v:Value} {d:DataW H} {p:List MemPlace} {sz:Nat} (f:α→List Value) (Pr:α→Prop) (z:α) (ht:P.underlying t=some (.slice e))
    (hel:∀ m cs x,DataW.trod enc P w base spare held m e cs=some x→∃ y,cs=f y∧Pr y) (hc:P.cellsOf e=sz) (hpos:0<sz) (hfl:∀ x,(f x).length=sz)
    (hv:Value.okWide P w r b0 t v) (h:DataW.Trod enc P w base spare held t v d p):∃ xs:List α,RoAt T sz f v xs w∧∀ x,x∈xs→Pr x:=by
  obtain ⟨a,len,cap,rfl⟩:=okWide_slice ht hv;obtain ⟨fuel,hd⟩:=h
  rcases open_slice ht hd with ⟨h1,_⟩ | ⟨ad,n',c,m,q,D,Pl,h1,_,hnc,_,hm,_,hcell⟩
  · simp only [Value.cells,List.cons.injEq,and_true] at h1
    injection h1 with h1 h2 h3
    subst h1; subst h2; subst h3;exact ⟨[],.inl ⟨_,_,rfl,rfl⟩,fun _ h=>by cases h⟩
  · simp only [Value.cells,List.cons.injEq,and_true] at h1
    injection h1 with h1 h2 h3
    subst h1; subst h2; subst h3;have hlen:len≤m:=by rw [hm]; split <;> omega
    have hI:∀ i,i<len→∃ y:α,w.cells? base (ad.add (i * sz)) sz=some (f y)∧Pr y:=fun i hi=>by
      obtain ⟨cs',h1,h2⟩:=hcell i kw;obtain ⟨y,h3,h4⟩:=hel q cs' _ h2;rw [hc,h3] at h1
      exact ⟨y,h1,h4⟩
    obtain ⟨g,hg⟩:=Classical.axiomOfChoice (r:=fun (i:Nat) (y:α)=>i<len→w.cells? base (ad.add (i * sz)) sz=some (f y)∧Pr y)
      (fun i=>by
        by_cases hi:i<len
        · obtain ⟨y,h⟩:=hI i hi; exact ⟨y,fun _=>h⟩
        · exact ⟨z,fun h=>absurd h hi⟩)
    refine ⟨(List.range len).map fun i=>g i,?_,fun x hx=>?_⟩
    · cases len with
      | zero=>exact .inl ⟨_,_,rfl,rfl⟩
      | succ m0=>
        have hz:∀ i,i<m0+1→∀ j u,(f ((g i)))[j]?=some u→w.cell? ((ad.add (i * sz)).add j)=some u:=fun i hi j u hu=>by
          obtain ⟨h1,_⟩:=hg i hi;obtain ⟨_,h4,h5⟩:=World.cells?_some h1;have hj:j<(f (g i)).length:=(List.getElem?_eq_some_iff.1 hu).1;rw [h5 j kw,hu]
        have h0:=hz 0 kw 0 ((f ((g 0)))[0]'(by rw [hfl]; exact hpos)) (by simp)
        have hadd:(ad.add (0 * sz)).add 0=ad:=by rw [Nat.zero_mul]; rfl
        rw [hadd] at h0
        have hsp:ad.spot=none:=by
          unfold World.cell? at h0
          split at h0
          · split at h0
            · cases h0
            · rename_i h; simpa using h
          · cases h0
        obtain ⟨gB,o,sp⟩:=ad;simp only at hsp
        subst hsp;have hx:∃ cur E fz,w.heap[gB]?=some (.cells cur E fz):=by
          unfold World.cell? at h0
          split at h0
          · rename_i c' E fz hh; exact ⟨c',E,fz,hh⟩
          · cases h0
        obtain ⟨cur,E,fz,hh⟩:=hx;refine .inr ⟨gB,o,cap,cur,E,fz,by simp,?_,hh,?_,by simpa using hnc⟩
        · intro he
          have:=congrArg List.length he;simp at this
        · have hll:((List.range (m0+1)).map fun i=>g i).length=m0+1:=by simp
          apply List.ext_getElem?
          intro q;rw [hll]
          by_cases hq:q<(m0+1) * sz
          · have hi:q / sz<m0+1:=(Nat.div_lt_iff_lt_mul hpos).2 hq
            have hj:q % sz<sz:=Nat.mod_lt _ hpos;have hqq:q / sz * sz+q % sz=q:=by rw [Nat.mul_comm]; exact Nat.div_add_mod q sz
            have h1:=hz (q / sz) hi (q % sz) ((f ((g (q / sz))))[q % sz]'(by rw [hfl]; exact hj)) (by simp)
            rw [Addr.add_lit,Addr.add_lit] at h1
            simp only [World.cell?,hh] at h1
            have h2:=pd hfl ((List.range (m0+1)).map fun i=>g i) (q / sz) (by rw [hll]; exact hi) (q % sz) ((f ((g (q / sz))))[q % sz]'(by rw [hfl]; exact hj)) (by simp)
            rw [hqq] at h2
            rw [h2,List.getElem?_take,if_pos hq,List.getElem?_drop]
            rw [Nat.add_assoc,hqq] at h1
            simpa using h1
          · rw [List.getElem?_take,if_neg hq,List.getElem?_eq_none]
            rw [gP hfl,hll]
            omega
    · obtain ⟨i,hi,rfl⟩:=List.mem_map.1 hx
      exact (hg i (List.mem_range.1 hi)).2
theorem uc {T:TypeId} {r:Reach} {b0:Nat} {t e:TypeId} {v:Value} {d:DataW H} {p:List MemPlace} (ht:P.underlying t=some (.slice e)) (he:P.underlying e=some .bool) (hc:P.cellsOf e=1)
    (hv:Value.okWide P w r b0 t v) (h:DataW.Trod enc P w base spare held t v d p):∃ xs:List Bool,RoAt T 1 aP v xs w:=by
  obtain ⟨xs,h1,_⟩:=BJ (T:=T) aP (fun _=>True) false ht (fun m cs x hx=>by
    obtain ⟨b,hb,_⟩:=DataW.trod_bool he hx;exact ⟨b,hb,trivial⟩) hc kw (fun _=>rfl) hv h
  exact ⟨xs,h1⟩
end
end Go.Proofs.YtikjpdpgdmbdpaaGreat
