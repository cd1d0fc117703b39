/- Some of our texts, one behind the other. -/
import Derived.Test.YtikjpdpgdmbdpaaGreatLtM23
import Derived.Test.YtikjpdpgdmbdpaaGreatLtLListp
set_option linter.all false
/- Ours. -/
namespace Go.Proofs.YtikjpdpgdmbdpaaGreat
open Go.RowKit
def ps:Plan:=⟨16,2,7,1,1,100⟩
theorem psF:PF ps:=Bw (by decide +kernel)
theorem nI:D.aC ps=4:=by decide +kernel
theorem vU:D.cl ps=10:=by decide +kernel
theorem jp:D.aF ps=26:=by decide +kernel
theorem rm:D.aU ps=106:=by decide +kernel
def stw:List (Int × State):=[(0,⟨0,0,0⟩),(D.bQ ⟨0,1,2⟩,⟨0,1,2⟩),(D.bQ ⟨0,2,2⟩,⟨0,2,2⟩),(D.bQ ⟨1,0,0⟩,⟨1,0,0⟩)]
def sto (w:Int):State:=((stw.find? fun x=>x.1==w).map (·.2)).getD ⟨0,0,0⟩
def stB (w:Int):Bool:=w==0||w==9663676416||w==10737418240||w==1
theorem Dc {w:Int} (h:stB w=true):w=D.bQ (sto w)∧SF (sto w):=by
  unfold stB at h
  simp only [Bool.or_eq_true,beq_iff_eq] at h
  have key:∀ w∈([0,9663676416,10737418240,1]:List Int),w=D.bQ (sto w)∧(0≤(sto w).gen∧(sto w).gen≤1073741823∧0≤(sto w).mode∧(sto w).mode≤3∧0≤(sto w).kind∧(sto w).kind≤2):=by decide +kernel
  obtain ⟨h1,h2,h3,h4,h5,h6,h7⟩:=key w (by simp only [List.mem_cons,List.not_mem_nil,or_false]; omega);exact ⟨h1,h2,h3,h4,h5,h6,h7⟩
def followF (ws:List Int):Nat→Int→List Int
  | 0,_=>[]
  | d+1,w=>if w=0 then [] else (w - 1)::followF ws d (rd ws (26+(w - 1) * 5+1))
def followL (ws:List Int):Nat→Int→List Int
  | 0,_=>[]
  | d+1,w=>if w=0 then [] else (w / 2 - 1)::followL ws d (rd ws (26+(w / 2 - 1) * 5+4))
def linkedB (ws:List Int):List Int→Bool
  | []=>true
  | n::l=>rd ws (26+n * 5+1)==first l&&linkedB ws l
def linkB (ws:List Int):Int→List Int→Bool
  | a,[]=>rd ws a==0
  | a,n::l=>rd ws a==(n+1) * 2&&(decide (0≤n)&&decide (n<16))&&linkB ws (26+n * 5+2+2) l
def riseB (ws:List Int):Int→List Int→Bool
  | _,[]=>true
  | k,n::l=>decide (k<rd ws (26+n * 5+2+0))&&decide (rd ws (26+n * 5+2+0)<1000)&&riseB ws (rd ws (26+n * 5+2+0)) l
def nodupB:List Int→Bool
  | []=>true
  | n::l=>!l.elem n&&nodupB l
def chkL (ws fr l:List Int):Bool:=
  ws.length==106&&(rd ws 0==rd ws 0 / 2097152 * 2097152+first fr&&decide (0≤rd ws 0))&&fr.all (fun n=>decide (0≤n)&&decide (n<16))&&nodupB fr&&linkedB ws fr&&rd ws 10==0&&(List.range 16).all (fun q=>stB (rd ws (26+(q:Int) * 5)))&&
  fr.all (fun n=>rd ws (26+n * 5+2)==0&&rd ws (26+n * 5+3)==0&&rd ws (26+n * 5+4)==0)&&(rd ws 4==0&&rd ws 5==0&&rd ws 6==0)&&linkB ws 2 l&&nodupB l&&l.all (fun n=>!fr.elem n)&&riseB ws (-1) l&&decide (11≤fr.length)&&decide (rd ws 0 / 2097152≤100)
def unm (ws:List Int) (n:Int):List Int:=ws.set (26+n * 5+4).toNat (rd ws (26+n * 5+4) - 1)
def chkS (ws:List Int):Bool:=
  let fr:=followF ws 16 (rd ws 0 % 2097152)
  chkL ws fr (followL ws 16 (rd ws 2))||(List.range 16).any fun (m:Nat)=>let n:Int:=m; let w:=unm ws n; let l:=followL w 16 (rd w 2); rd ws (26+n * 5+4) % 2==1&&l.elem n&&chkL w fr l
theorem pM:∀ {l:List Int},nodupB l=true→l.Nodup
  | [],_=>List.nodup_nil
  | n::l,h=>by
    simp only [nodupB,Bool.and_eq_true,Bool.not_eq_true'] at h
    refine List.nodup_cons.2 ⟨fun hm=>?_,pM h.2⟩
    have:l.elem n=true:=by simpa using hm
    rw [h.1] at this; cases this
theorem tK {ws:List Int}:∀ {l:List Int},linkedB ws l=true→Linked ps ws l
  | [],_=>trivial
  | n::l,h=>by
    simp only [linkedB,Bool.and_eq_true,beq_iff_eq] at h
    exact ⟨by unfold nx; rw [jp]; exact h.1,tK h.2⟩
theorem jo (n f:Int):fp ps n f=26+n * 5+2+f:=by unfold fp sp; rw [jp]
theorem uy {ws:List Int}:∀ {l:List Int} {a:Int},linkB ws a l=true→aY ps ws a l
  | [],a,h=>by
    have h':rd ws a=0:=by simpa [linkB] using h
    exact h'
  | n::l,a,h=>by
    simp only [linkB,Bool.and_eq_true,beq_iff_eq,decide_eq_true_eq] at h
    exact ⟨h.1.1,h.1.2,by rw [jo]; exact uy h.2⟩
theorem uG {ws:List Int}:∀ {l:List Int} {k:Int},riseB ws k l=true→(∀ e,e∈ents ps ws l→k<e.key∧e.key<1000)∧Rise (ents ps ws l)
  | [],k,_=>⟨fun e he=>(by cases he),List.Pairwise.nil⟩
  | n::l,k,h=>by
    simp only [riseB,Bool.and_eq_true,decide_eq_true_eq] at h
    obtain ⟨h1,h2⟩:=uG h.2;have e0:rd ws (fp ps n 0)=rd ws (26+n * 5+2+0):=by rw [jo]
    refine ⟨fun e he=>?_,List.pairwise_cons.2 ⟨fun e he=>?_,h2⟩⟩
    · rcases List.mem_cons.1 he with rfl | he
      · show k<rd ws (fp ps n 0)∧rd ws (fp ps n 0)<1000
        rw [e0]; exact h.1
      · have:=h1 e he
        exact ⟨kw,this.2⟩
    · show rd ws (fp ps n 0)<e.key
      rw [e0]; exact (h1 e he).1
theorem vp {ws fr l:List Int} (h:chkL ws fr l=true):∃ st g,g≤100∧LAt ps 0 ws ⟨fr,[],st⟩ g 2 l∧11≤fr.length∧∀ e,e∈ents ps ws l→e.key<1000:=by
  simp only [chkL,Bool.and_eq_true,beq_iff_eq,decide_eq_true_eq] at h
  obtain ⟨⟨⟨⟨⟨⟨⟨⟨⟨⟨⟨⟨⟨⟨h1,h2,h2'⟩,h3⟩,h4⟩,h5⟩,h6⟩,h7⟩,h8⟩,⟨h9,h10⟩,h11⟩,h12⟩,h13⟩,h14⟩,h15⟩,h16⟩,h17⟩:=h;obtain ⟨r1,r2⟩:=uG h15;have hnd:ps.nodes=16:=rfl;have hfr:∀ n,n∈fr→0≤n∧n<ps.nodes:=fun n hn=>by
    have:=List.all_eq_true.1 h3 n hn;simp only [Bool.and_eq_true,decide_eq_true_eq] at this
    rw [hnd]; exact this
  have hrb:rb ps 0=10:=by unfold rb; rw [vU]; rfl
  have hsp:∀ q,sp ps q=26+q * 5:=fun q=>by unfold sp; rw [jp]
  refine ⟨fun q=>sto (rd ws (sp ps q)),rd ws 0 / 2097152,h17,⟨⟨⟨?_,h2,?_,hfr,pM h4,tK h5⟩,⟨?_,?_,fun i hi=>?_,fun n hn=>(by cases hn)⟩,List.nodup_nil,fun n hn=>(by cases hn),fun n n0 n1=>?_,fun n f hn f0 f1=>?_⟩,fun j j0 j1=>?_,uy h12,pM h13,fun q hq=>⟨fun hf=>?_,List.not_mem_nil⟩,r2⟩,h16,fun e he=>(r1 e he).2⟩
  · rw [rm,h1]; rfl
  · omega
  · rw [hrb]; simpa using h6
  · show (0:Int)≤7; omega
  · simp at hi
  · rw [hnd] at n1
    have:=List.all_eq_true.1 h7 n.toNat (List.mem_range.2 kw)
    rw [show ((n.toNat:Nat):Int)=n from by omega] at this
    obtain ⟨h18,h19⟩:=Dc this;rw [←hsp] at h18 h19
    exact ⟨h18,h19⟩
  · have:=List.all_eq_true.1 h8 n hn
    simp only [Bool.and_eq_true,beq_iff_eq] at this
    obtain ⟨⟨e1,e2⟩,e3⟩:=this;rw [hsp]
    rcases (show f=0∨f=1∨f=2 by omega) with rfl | rfl | rfl
    · rw [Int.add_zero]; exact e1
    · rw [show 26+n * 5+2+1=26+n * 5+3 from by omega]; exact e2
    · rw [show 26+n * 5+2+2=26+n * 5+4 from by omega]; exact e3
  · rw [nI]
    rcases (show j=0∨j=1∨j=2 by omega) with rfl | rfl | rfl
    · exact h9
    · exact h10
    · exact h11
  · have:=List.all_eq_true.1 h14 q hq
    simp only [Bool.not_eq_true'] at this
    have h18:fr.elem q=true:=by simpa using hf
    rw [this] at h18; cases h18
structure Still (ws:List Int):Prop where
  ex:∃ P g,g≤100∧P.rt=[]∧11≤P.fr.length∧
    ((∃ l,LAt ps 0 ws P g 2 l∧∀ e,e∈ents ps ws l→e.key<1000)∨
     (∃ pre n suf,LAt ps 0 (unm ws n) P g 2 (pre++n::suf)∧(∀ e,e∈ents ps (unm ws n) (pre++n::suf)→e.key<1000)))
theorem CO {ws:List Int} (h:chkS ws=true):Still ws:=by
  unfold chkS at h
  simp only [Bool.or_eq_true,List.any_eq_true,Bool.and_eq_true] at h
  rcases h with h | ⟨n,_,⟨h1,h2⟩,h3⟩
  · obtain ⟨st,g,hg,hL,hf,hk⟩:=vp h
    exact ⟨_,g,hg,rfl,hf,.inl ⟨_,hL,hk⟩⟩
  · obtain ⟨st,g,hg,hL,hf,hk⟩:=vp h3
    obtain ⟨pre,suf,e⟩:=List.append_of_mem (show (n:Int)∈followL (unm ws n) 16 (rd (unm ws n) 2) from by simpa using h2)
    rw [e] at hL hk
    exact ⟨_,g,hg,rfl,hf,.inr ⟨pre,n,suf,hL,hk⟩⟩
theorem LinkTo.last {p:Plan} {u:List Int} {w:Int}:∀ {pre:List Int} {a:Int},LinkTo p u a pre w→rd u (bh p a pre)=w
  | [],_,h=>h
  | x::pre,a,h=>by rw [ko]; exact LinkTo.last h.2.2
section
variable {p : Plan} (hp : PF p) (hnn : p.nodes ≤ 900) {t : Int} (ht : 0 ≤ t ∧ t < p.threads)
include hp ht hnn
theorem BJ (J:Nat) {N u:List Int} {c y:Int} (hl:Len p u) (h0:0≤c) (h1:c<D.aU p) (h2:¬ (D.aC p+t * 3≤c∧c<D.aC p+t * 3+3)) (hw:rd u c=(y+1) * 2) (hy:0≤y∧y<p.nodes) (hN:y∈N) :
    ∃ m u1,m≤3∧Runs (D.eY (J+1) p t 1 c 1) u m ((y+1) * 2) u1∧Off p t N u u1:=by
  obtain ⟨z1,z2,z3,z4⟩:=bI hp;have hn1:=hp.n1;have hlu:(u.length:Int)=D.aU p:=hl;have e2:(y+1) * 2 / 2 ^ (1:Int).toNat=y+1:=by show (y+1) * 2 / 2=y+1; omega
  have hg:=tR hp hl (t:=t) (s:=1) (at_:=c) (sh:=1) (w:=(y+1) * 2) ht kw h0 h1 kw kw kw kw hw J
  rw [e2] at hg
  refine ⟨3,u.set (D.aC p+t * 3+1).toNat (y+1),kw,?_,List.length_set ..,fun j j0 j1=>by rw [bG kw kw j0,if_neg kw],fun j j0=>?_⟩
  · unfold D.eY
    refine pD kw kw ?_;unfold D.jH;rw [hw];exact hg.2 kw
  · rw [bG kw kw j0]
    by_cases e:j=D.aC p+t * 3+1
    · rw [if_pos e]; exact .inr (.inr ⟨y,hN,rfl⟩)
    · rw [if_neg e]; exact .inl rfl
theorem BL (J:Nat) (hJ:1100<J) {n g c k:Int} {pre suf w0 ws:List Int} {P:Pool} (hL:LAt p t w0 P g c (pre++n::suf)) (hc:0<c∧c<D.aC p) (hlen:ws.length=w0.length) (hws:∀ j,0≤j→rd ws j=if j=fp p n 2 then lw suf+1 else rd w0 j)
    (hg:g<900000) (hroom:(P.rt.length:Int)<p.retire) (hk:∀ q,q∈pre++n::suf→rd w0 (fp p q 0)<k) :
    ∃ (m:Nat) (ws':List Int) (g':Int),m≤9 * (pre.length+suf.length)+70 * P.rt.length+40∧g'≤g+P.rt.length∧Runs (D.cN (J+1) ⟨p,0,t⟩ c k) ws m ⟨6,0⟩ ws'∧LAt p t ws' (dropP p P n) g' c (pre++suf)∧ents p ws' (pre++suf)=ents p w0 (pre++suf):=by
  obtain ⟨z1,z2,z3,z4⟩:=bI hp;obtain ⟨b1,b2,b3⟩:=bZ hp ht;have hn1:=hp.n1;have ht1:=hp.t1;have hll:=hL.eL hp kw ht hc;simp only [List.length_append,List.length_cons] at hll
  have hfp:∀ q f,fp p q f=D.aF p+q * 5+2+f:=fun q f=>rfl
  have hsp:∀ q,sp p q=D.aF p+q * 5:=fun q=>rfl
  have hrange:=hL.link.range;have hnm:n∈pre++n::suf:=List.mem_append_right _ (List.mem_cons_self ..);have hn:=hrange n hnm;obtain ⟨o1,o2⟩:=hL.out n hnm;obtain ⟨d1,d2,d3⟩:=List.nodup_append.1 hL.nd;obtain ⟨d4,d5⟩:=List.nodup_cons.1 d2;have hpre:∀ q,q∈pre→q≠n:=fun q hq e=>d3 q hq n (List.mem_cons_self ..) e
  have hsuf:∀ q,q∈suf→q≠n:=fun q hq e=>d4 (e ▸ hq)
  have hlw0:(w0.length:Int)=D.aU p:=hL.pool.free.len;have hl:(ws.length:Int)=D.aU p:=by rw [hlen]; exact hlw0
  have hPws:PoolH p t ws P g:=hL.pool.beside hp ht (fun j=>j=fp p n 2) (fun j hj=>.inr ⟨n,2,hn,o1,kw,hj⟩) hlen fun j hj hne=>by rw [hws j hj,if_neg hne]
  have hws':∀ j,0≤j→j≠fp p n 2→rd ws j=rd w0 j:=fun j hj hne=>by rw [hws j hj,if_neg hne]
  have hLT:LinkTo p ws c pre ((n+1) * 2):=(LinkTo.of hL.link).keep (hws' c kw (by rw [hfp]; omega)) fun q hq=>hws' _ (by have:=hrange q (List.mem_append_left _ hq); rw [hfp]; omega) fun e=>hpre q hq (fw e)
  have hLn:=aY.app hL.link;obtain ⟨y,hyN,hyw⟩:∃ y,y∈pre++n::suf∧rd ws c=(y+1) * 2:=by
    have:=hLT.word;cases pre with
    | nil=>exact ⟨n,hnm,this⟩
    | cons x l=>exact ⟨x,by simp,this⟩
  obtain ⟨m1,u1,hm1,hr1,f1⟩:=BJ hp hnn ht J (N:=pre++n::suf) hl kw kw kw hyw (hrange y hyN) hyN;have hl1:(u1.length:Int)=D.aU p:=by rw [f1.1]; exact hl
  obtain ⟨d,hd⟩:∃ d,J+1=(d+1)+pre.length:=⟨J - pre.length,kw⟩
  have hkey:∀ u,Off p t (pre++n::suf) ws u→∀ q,q∈pre++n::suf→rd u (fp p q 0)<k:=fun u ho q hq=>by
    obtain ⟨g1,g2,g3,g4⟩:=cJ hp ht (f:=0) (hrange q hq) kw;rw [ho.2 _ kw kw,hws' _ kw (by rw [hfp,hfp]; omega)];exact hk q hq
  obtain ⟨m2,u2,nx2,th2,hm2,f2,hrun2⟩:=Ca hp hnn ht (J+1) c k (pre++n::suf) n hn pre c 0 false u1 (d+1) (fun q hq=>List.mem_append_left _ hq) hnm hl1 kw kw kw (hLT.off hp hnn ht f1 kw kw) fun q hq=>hkey u1 f1 q (List.mem_append_left _ hq)
  have f12:=f1.trans f2;have hl2:(u2.length:Int)=D.aU p:=by rw [f12.1]; exact hl
  have hP2:=hPws.hzs hp ht f12.1 f12.2;have ha2:rd u2 (bh p c pre)=(n+1) * 2:=(hLT.off hp hnn ht f12 kw kw).last
  have hin2:∀ q,q∈pre++n::suf→∀ f,0≤f→f<3→rd u2 (fp p q f)=rd ws (fp p q f):=fun q hq f f0 f1'=>by
    obtain ⟨g1,g2,g3,g4⟩:=cJ hp ht (f:=f) (hrange q hq) kw;exact f12.2 _ kw kw
  have hm2':rd u2 (fp p n 2)=lw suf+1:=by rw [hin2 n hnm 2 kw kw,hws _ (by rw [hfp]; omega),if_pos rfl]
  have hsufm:∀ q,q∈suf→q∈pre++n::suf:=fun q hq=>List.mem_append_right _ (List.mem_cons_of_mem _ hq)
  have hs2:∀ q,q∈suf→rd u2 (fp p q 2)=rd w0 (fp p q 2):=fun q hq=>by
    rw [hin2 q (hsufm q hq) 2 kw kw,hws' _ (by have:=hrange q (hsufm q hq); rw [hfp]; omega) fun e=>hsuf q hq (fw e)]
  have hap:0<bh p c pre∧bh p c pre<D.aU p∧¬ (D.aC p≤bh p c pre∧bh p c pre<D.aF p):=by
    rcases cR p c pre with ⟨e,_⟩ | ⟨q,hq,e⟩
    · rw [e]; omega
    · have hqr:=hrange q (List.mem_append_left _ hq)
      obtain ⟨g1,g2,g3,g4⟩:=cJ hp ht (f:=2) hqr kw;rw [e];exact ⟨g2,g3,by rw [hfp]; omega⟩
  have hao:∀ q,q∈P.fr∨q∈P.rt→¬ bm p q (bh p c pre):=fun q hq ho=>by
    have hqr:=hL.range hp kw ht hc (n:=q) (hq.imp id .inl)
    rcases cR p c pre with ⟨e,_⟩ | ⟨x,hx,e⟩
    · rw [e] at ho; unfold bm at ho; omega
    · rw [e] at ho
      unfold bm at ho
      rw [hfp] at ho
      have:q=x:=kw
      subst this;obtain ⟨c1,c2⟩:=hL.out q (List.mem_append_left _ hx);exact hq.elim c1 c2
  have hasp:∀ q,0≤q→bh p c pre≠sp p q:=fun q q0 e'=>by
    rcases cR p c pre with ⟨e,_⟩ | ⟨x,hx,e⟩
    · rw [e,hsp] at e'; omega
    · rw [e,hfp,hsp] at e'; omega
  obtain ⟨m3,u3,g',hm3,hg',hP3,hl3,ha3,hfr3,nx3,th3,hrun3⟩:=AY hp hnn ht (J+1) kw c k (pre++n::suf) n hn suf (bh p c pre) nx2 g th2 u2 d hP2 hg hsufm hap.1 hap.2.1 hap.2.2 ha2 hm2'
    (fun s0 s e=>by
      subst e;exact ⟨hLn.2.2.2.1,aY.keepW hLn.2.2.2.2 (hs2 s0 (List.mem_cons_self ..)) fun q hq=>hs2 q (List.mem_cons_of_mem _ hq)⟩) hao hasp o2 o1 hroom
  have hlu3:(u3.length:Int)=D.aU p:=by rw [hl3]; exact hl2
  have hin3:∀ q,q∈pre++suf→∀ f,0≤f→f<3→fp p q f≠bh p c pre→rd u3 (fp p q f)=rd w0 (fp p q f):=fun q hq f f0 f3 hne=>by
    have hqm:q∈pre++n::suf:=by
      rcases List.mem_append.1 hq with hq | hq
      · exact List.mem_append_left _ hq
      · exact hsufm q hq
    have hqn:q≠n:=by
      rcases List.mem_append.1 hq with hq | hq
      · exact hpre q hq
      · exact hsuf q hq
    have hqr:=hrange q hqm;obtain ⟨c1,c2⟩:=hL.out q hqm;rw [hfr3 _ (by rw [hfp]; omega) (by rw [hfp]; omega) hne (fun x hx=>?_) (by rw [hfp]; omega) (by rw [hfp]; omega),hin2 q hqm f f0 f3,hws' _ (by rw [hfp]; omega) (fun e=>hqn (by rw [hfp,hfp] at e; omega))]
    have hxr:0≤x∧x<p.nodes:=by
      rcases hx with hx | hx | rfl
      · exact hL.pool.free.range x hx
      · exact hL.pool.ret.range x hx
      · exact hn
    have hxq:x≠q:=fun e=>by
      subst e
      rcases hx with hx | hx | hx
      · exact c1 hx
      · exact c2 hx
      · exact hqn hx
    unfold bm; rw [hfp]; omega
  have hslast:∀ q,q∈suf→fp p q 2≠bh p c pre:=fun q hq e=>by
    rcases cR p c pre with ⟨e',_⟩ | ⟨x,hx,e'⟩
    · have:=hrange q (hsufm q hq)
      rw [e',hfp] at e; omega
    · rw [e'] at e
      exact d3 x hx q (List.mem_cons_of_mem _ hq) (fw e).symm
  have hL3:aY p u3 (bh p c pre) suf:=aY.re hLn.2.2 ha3 fun q hq=>hin3 q (List.mem_append_right _ hq) 2 kw kw (hslast q hq)
  obtain ⟨m4,r,u4,hm4,hr4,f4,r1,r2,r3,hF⟩:=ur hp kw ht (J+1) c k (pre++n::suf) suf (bh p c pre) nx3 th3 u3 d hsufm hlu3 kw kw hap.2.1 kw hL3;obtain ⟨pr,su,e1,k1,k2,k3,k4,k5,k6⟩:=hF
  clear k4
  have hthere:r.there=false:=by
    cases h:r.there with
    | false=>rfl
    | true=>
      obtain ⟨q,hq,hqk⟩:=k6.1 h;have hqs:q∈suf:=by rw [e1]; exact List.mem_append_right _ (List.mem_of_mem_head? hq)
      have:=hk q (hsufm q hqs);rw [←hin3 q (List.mem_append_right _ hqs) 0 kw kw (fun e=>by
        rcases cR p c pre with ⟨e',_⟩ | ⟨x,hx,e'⟩
        · have:=hrange q (hsufm q hqs)
          rw [e',hfp] at e; omega
        · rw [e',hfp,hfp] at e; omega)] at this
      omega
  have hl4:(u4.length:Int)=D.aU p:=by rw [f4.1]; exact hlu3
  obtain ⟨w5,hw5,v1,v2⟩:=mZ hp ht (J+1) kw (u:=u4) hl4 ⟨6,0⟩;have hl5:(w5.length:Int)=D.aU p:=v1;have h53:∀ j,0≤j→¬ (D.aC p+t * 3≤j∧j<D.aC p+t * 3+3)→rd w5 j=rd u3 j:=fun j hj hne=>by rw [v2 j hj,if_neg hne]; exact f4.2 j hj hne
  have hin5:∀ q,q∈pre++suf→∀ f,0≤f→f<3→fp p q f≠bh p c pre→rd w5 (fp p q f)=rd w0 (fp p q f):=fun q hq f f0 f3 hne=>by
    have hqr:0≤q∧q<p.nodes:=by
      rcases List.mem_append.1 hq with hq | hq
      · exact hrange q (List.mem_append_left _ hq)
      · exact hrange q (hsufm q hq)
    obtain ⟨g1,g2,g3,g4⟩:=cJ hp ht (f:=f) hqr kw;rw [h53 _ kw kw];exact hin3 q hq f f0 f3 hne
  have hc5:c≠bh p c pre→rd w5 c=rd w0 c:=fun hne=>by
    rw [h53 c kw kw,hfr3 c kw kw hne (fun x hx=>?_) kw kw,f12.2 c kw kw,hws' c kw (by rw [hfp]; omega)]
    have hxr:0≤x∧x<p.nodes:=by
      rcases hx with hx | hx | rfl
      · exact hL.pool.free.range x hx
      · exact hL.pool.ret.range x hx
      · exact hn
    unfold bm; omega
  have hdrop:dropP p P n=⟨P.fr,P.rt++[n],fun q=>if q=n then ⟨(P.st n).gen,2,(P.st n).kind⟩ else P.st q⟩:=by
    unfold dropP Pool.stash;simp only;rw [if_pos hroom]
  have hent:ents p w5 (pre++suf)=ents p w0 (pre++suf):=fP fun q f hq f0 f2'=>hin5 q hq f f0 kw fun e=>by
    have hqr:0≤q:=by
      rcases List.mem_append.1 hq with hq | hq
      · exact (hrange q (List.mem_append_left _ hq)).1
      · exact (hrange q (hsufm q hq)).1
    rcases cR p c pre with ⟨e',_⟩ | ⟨x,hx,e'⟩
    · rw [e',hfp] at e; omega
    · rw [e',hfp,hfp] at e; omega
  refine ⟨m1+(m2+(m3+m4))+3,w5,g',kw,hg',?_,⟨hP3.hzs hp ht kw h53,fun j j0 j1=>by rw [v2 _ kw,if_pos kw],?_,?_,fun q hq=>?_,?_⟩,hent⟩
  · have hstep:=hrun2 _ r u4 (hrun3 _ r u4 hr4)
    rw [←hd,f1.2 c kw kw,hyw] at hstep
    refine Runs.bind (g:=fun x=>D.fk (J+1) ⟨p,0,t⟩ x) (a:=r) (n:=m1+(m2+(m3+m4))) (m:=3) (ws':=u4) ?_ ?_
    · exact Runs.bind (g:=fun x=>D.pd (J+1) (D.bN (J+1) (J+1)) ⟨p,0,t⟩ c k x) hr1 hstep
    · unfold D.fk
      rw [hthere]
      exact hw5
  · refine aY.del hL.link hL.nd (fun q hq e=>?_) ?_ (fun q hq hne=>hin5 q hq 2 kw kw hne) hc5
    · have:=hrange q hq
      rw [hfp] at e; omega
    · rw [h53 _ kw kw]; exact ha3
  · exact List.nodup_append.2 ⟨d1,d5,fun a ha b hb=>d3 a ha b (List.mem_cons_of_mem _ hb)⟩
  · have hqm:q∈pre++n::suf∧q≠n:=by
      rcases List.mem_append.1 hq with hq | hq
      · exact ⟨List.mem_append_left _ hq,hpre q hq⟩
      · exact ⟨hsufm q hq,hsuf q hq⟩
    obtain ⟨c1,c2⟩:=hL.out q hqm.1;rw [hdrop];exact ⟨c1,fun hf=>by
      rcases List.mem_append.1 hf with hf | hf
      · exact c2 hf
      · exact hqm.2 (List.mem_singleton.1 hf)⟩
  · rw [hent]
    refine hL.inc.sub ?_;unfold ents;rw [List.map_append,List.map_append,List.map_cons];exact List.Sublist.append_left (List.sublist_cons_self ..) _
end
end Go.Proofs.YtikjpdpgdmbdpaaGreat

/- Ours. -/
set_option maxRecDepth 20000
set_option maxHeartbeats 2000000
namespace Go.Proofs.YtikjpdpgdmbdpaaGreat
open Go.RowKit
theorem cl50:ag Tryz.prog 50:=kz
theorem cl61:ag Tryz.prog 61:=kz
theorem Cp:aX Tryz.prog 120 0 0:=kz
theorem qh:aX Tryz.prog 120 1 1:=kz
theorem Co:aX Tryz.prog 120 2 2:=kz
theorem ti5:intTy Tryz.prog 5 .u8:=kz
theorem to5:tyO Tryz.prog 5:=kz
def D.dZ (j:Nat) (a0:Seat) (a1:Int) (a2:CallL):T Res:=(bif ((a2.kind.tmod 3)==0) then (D.cH j a0 a1 (IntKind.u64.wrap a2.k) (IntKind.u64.wrap a2.v)) else (bif ((a2.kind.tmod 3)==1) then (D.cB j j a0 a1 (IntKind.u64.wrap a2.k)) else (D.cN j a0 a1 (IntKind.u64.wrap a2.k))))
set_option maxRecDepth 20000 in
set_option maxHeartbeats 8000000 in
theorem yt {n:Nat} {F:Nat→Prop} {j:Nat} {w0:World} (hF:∀ b,F b→b<w0.heap.size) (hj:n<j)
    (a0:Seat) (a1:Int) (a2:CallL) :
    Calls Tryz.prog 59 #[.agg (au a0).toArray,.int .i64 a1,.agg (bv a2).toArray] w0 (aq Tryz.prog ar n (D.dZ j a0 a1 a2) F w0):=by
 refine kN Tryz.func59 rfl 35 rfl rfl fun fr r hB=>?_;refine wsr ?_
 refine kX 63 (.agg (au a0).toArray) r rfl rfl fun b1 w2 n3 r=>?_;obtain ⟨eb1,zw2,hb1,hB,zB⟩:=n3.all hB
 refine kX 120 (.agg (bv a2).toArray) r rfl rfl fun b4 w5 n6 r=>?_;have hb1:=keep n6.below hb1
 obtain ⟨eb4,zw5,hb4,hB,zB⟩:=n6.all hB;refine ai (.cells (af false ar.zero 0 0 0 0 .nilFunc) 57 (0,0)) r (fun R=>ah tz57) rfl fun fr b7 w8 n9 r=>?_;have hb1:=keep n9.below hb1
 have hb4:=keep n9.below hb4;obtain ⟨eb7,zw8,hb7,hB,zB⟩:=n9.all hB;refine wn (wp_seq (wsr (kF 0 r rfl Cp rfl fun r=>kL (.int .u8 a2.kind) r rfl hb4 to5 rfl rfl fun r=>kB r rfl rfl rfl rfl rfl fun r=>wn (wp_block (wsr (kB r rfl rfl rfl rfl rfl fun r=>kA (.bool ((a2.kind.tmod 3)==0)) r rfl rfl fun r=>wn ?_))))));refine wp_cond_split (t:=((a2.kind.tmod 3)==0)) (r.ev rfl) (fun h10=>?_) (fun h10=>?_)
 ·
  refine wsr (kG (au a0) 8 r rfl hb1 ta63 rfl rfl fun r=>kM (I a1) r rfl rfl fun r=>kF 0 r rfl qh rfl fun r=>kL (.int .u8 a2.k) r rfl hb4 to5 rfl rfl fun r=>ac (U (V a2.k)) r (fun R=>cr r rfl ti5 ti36) rfl fun fr r=>kF 0 r rfl Co rfl fun r=>kL (.int .u8 a2.v) r rfl hb4 to5 rfl rfl fun r=>ac (U (V a2.v)) r (fun R=>cr r rfl ti5 ti36) rfl fun fr r=>?_);refine kJ r (mC (j:=j) (F:=No) (n:=n) (fun _ h=>h.elim) kw a0 a1 (V a2.k) (V a2.v)) rfl cl50 rfl fun w11 v12 hb hr13 r=>?_
  have hb:=hb.below;have zw11:=hb.size;have hb1:=keep hb hb1;have hb4:=keep hb hb4;have hb7:=keep hb hb7;obtain ⟨hB,zB⟩:=bon hb hB;refine kP r hr13.shape rfl rfl hb7 ts57 rfl rfl fun w14 u15 r=>?_;have zw14:=u15.size
  have hb1:=u15.keep hb1 kw
  have hb4:=u15.keep hb4 kw
  have hb7:=u15.at_;obtain ⟨hB,zB⟩:=u15.on hB kw
  refine wn (wp_ret ?_);have hd:D.dZ j a0 a1 a2=(D.cH j a0 a1 (V a2.k) (V a2.v)):=(aB h10).trans (rfl);have hs:=hr13.shape.cells;refine ak r rfl rfl hb7 (k:=8) hs.1 ta57 ?_;rw [←hs.2.2,hd];exact aq.fin (Chg.aM hB) hr13 u15 (fun _ h=>h.elim) (fun h=>h) kw kw kw
 refine wsr (kB r rfl rfl rfl rfl rfl fun r=>kA (.bool ((a2.kind.tmod 3)==1)) r rfl rfl fun r=>wn ?_);refine wp_cond_split (t:=((a2.kind.tmod 3)==1)) (r.ev rfl) (fun h16=>?_) (fun h16=>?_)
 ·
  refine wsr (kG (au a0) 8 r rfl hb1 ta63 rfl rfl fun r=>kM (I a1) r rfl rfl fun r=>kF 0 r rfl qh rfl fun r=>kL (.int .u8 a2.k) r rfl hb4 to5 rfl rfl fun r=>ac (U (V a2.k)) r (fun R=>cr r rfl ti5 ti36) rfl fun fr r=>?_);refine kJ r ((px (j:=j) (k:=j) (n:=n) kw kw) (No) _ (fun _ h=>h.elim) a0 a1 (V a2.k)) rfl cl52 rfl fun w17 v18 hb hr19 r=>?_
  have hb:=hb.below;have zw17:=hb.size;have hb1:=keep hb hb1;have hb4:=keep hb hb4;have hb7:=keep hb hb7;obtain ⟨hB,zB⟩:=bon hb hB;refine kP r hr19.shape rfl rfl hb7 ts57 rfl rfl fun w20 u21 r=>?_;have zw20:=u21.size
  have hb1:=u21.keep hb1 kw
  have hb4:=u21.keep hb4 kw
  have hb7:=u21.at_;obtain ⟨hB,zB⟩:=u21.on hB kw
  refine wn (wp_ret ?_);have hd:D.dZ j a0 a1 a2=(D.cB j j a0 a1 (V a2.k)):=(aD h10).trans ((aB h16).trans (rfl));have hs:=hr19.shape.cells;refine ak r rfl rfl hb7 (k:=8) hs.1 ta57 ?_;rw [←hs.2.2,hd];exact aq.fin (Chg.aM hB) hr19 u21 (fun _ h=>h.elim) (fun h=>h) kw kw kw
 refine wp_skip (wsr (kG (au a0) 8 r rfl hb1 ta63 rfl rfl fun r=>kM (I a1) r rfl rfl fun r=>kF 0 r rfl qh rfl fun r=>kL (.int .u8 a2.k) r rfl hb4 to5 rfl rfl fun r=>ac (U (V a2.k)) r (fun R=>cr r rfl ti5 ti36) rfl fun fr r=>?_));refine kJ r (p7 (j:=j) (F:=No) (n:=n) (fun _ h=>h.elim) kw a0 a1 (V a2.k)) rfl cl61 rfl fun w22 v23 hb hr24 r=>?_
 have hb:=hb.below;have zw22:=hb.size;have hb1:=keep hb hb1;have hb4:=keep hb hb4;have hb7:=keep hb hb7;obtain ⟨hB,zB⟩:=bon hb hB;refine kP r hr24.shape rfl rfl hb7 ts57 rfl rfl fun w25 u26 r=>?_;have zw25:=u26.size
 have hb1:=u26.keep hb1 kw
 have hb4:=u26.keep hb4 kw
 have hb7:=u26.at_;obtain ⟨hB,zB⟩:=u26.on hB kw
 refine wn (wp_ret ?_);have hd:D.dZ j a0 a1 a2=(D.cN j a0 a1 (V a2.k)):=(aD h10).trans ((aD h16).trans (rfl));have hs:=hr24.shape.cells;refine ak r rfl rfl hb7 (k:=8) hs.1 ta57 ?_;rw [←hs.2.2,hd];exact aq.fin (Chg.aM hB) hr24 u26 (fun _ h=>h.elim) (fun h=>h) kw kw kw
end Go.Proofs.YtikjpdpgdmbdpaaGreat
