/- Some of our texts, one behind the other. -/
import Derived.Test.YtbbipmelhmgmfaaGreatDpM11
import Derived.Test.YtbbipmelhmgmfaaGreatDpM22
import Derived.Test.YtbbipmelhmgmfaaGreatDpM16
import Derived.Test.YtbbipmelhmgmfaaGreatDpMem
import Derived.Test.YtbbipmelhmgmfaaGreatDpM14
import Derived.Test.YtbbipmelhmgmfaaGreatDpLListp
import Derived.Shelf.SlSortCmp.NoneTotal
import Derived.Test.YtbbipmelhmgmfaaGreatProg
import Derived.Lib.Walk
set_option linter.all false
set_option maxRecDepth 100000
set_option maxHeartbeats 20000000
/- Ours. -/
namespace Go.Proofs.YtbbipmelhmgmfaaGreat
open Go.RowKit
theorem zh7 {fu:Nat} (w0:World) {a0v:Value} {a0F:List Nat} (a0:Nat × T Res) {a1g:MG} (a1:Mem) (a2:Cap) (hS:Sep [zpT ar zpn a0 a0v a0F,memK a1g a1] w0) {res:(Nat × T Res) × Bool × Mem} (hD:D.ze2 fu a0 a1 a2=some res) :
    Calls ar 19 #[a0v,zp a1g.mb,aq (capC a2)] w0 (fun e w'=>∃ (v0:Value) (F0:List Nat),e=.returned (.tuple #[v0,(.bool res.2.1)])∧Done (fun b=>b∈a0F∨b∈(memK a1g a1).own) No [memK a1g res.2.2,zpT ar zpn res.1 v0 F0] w0 w'∧(res.2.1=false→v0=a0v∧res.1=a0)):=by
 refine enter Tryz.func19 rfl 28 rfl rfl fun fr r=>?_;have hP:Post (fun b=>b∈a0F∨b∈(memK a1g a1).own) [zpT ar zpn a0 a0v a0F,memK a1g a1] w0 w0:=.start hS yaw
 unfold D.ze2 at hD
 refine wsr ?_;refine kX 41 a0v r rfl rfl fun b1 w2 n3 r=>?_;have hP:Post (fun b=>b∈a0F∨b∈(memK a1g a1).own) [zpT ar zpn a0 a0v a0F,memK a1g a1,zpi b1 a0v.cells 41] w0 w2:=hP.new n3
 refine kX 52 (aq (capC a2)) r rfl rfl fun b5 w6 n7 r=>?_;have hP:Post (fun b=>b∈a0F∨b∈(memK a1g a1).own) [zpT ar zpn a0 a0v a0F,memK a1g a1,zpi b1 a0v.cells 41,zpi b5 ((capC a2)).toArray 52] w0 w6:=hP.new n7
 refine za7 (.cells (kq zpn) 41 (0,0)) r (fun R=>za6 tz41) rfl fun fr b9 w10 n11 r=>?_;have hP:Post (fun b=>b∈a0F∨b∈(memK a1g a1).own) [zpT ar zpn a0 a0v a0F,memK a1g a1,zpi b1 a0v.cells 41,zpi b5 ((capC a2)).toArray 52,zpi b9 (kq zpn) 41] w0 w10:=hP.new n11
 refine kA (.bool false) r rfl rfl fun r=>wn (aa (wsr (za0 _ r (fun R=>za3 r (b:=b1) (o:=0) (k:=0) rfl zne) rfl fun fr r=>kL (.bool a0.2.zpB) r rfl (hP.cell (i:=2) rfl) to4 (Rep.ziL (hP.progz (i:=0) rfl)) rfl fun r=>wn ?_)));refine ae (t:=a0.2.zpB) (r.ev rfl) (fun h13=>?_) (fun h13=>?_)
 ·
  have hD:=(zao h13).symm.trans hD;refine wsr (za0 a0v r (fun R=>zh3 r (hP.progz (i:=0) rfl).shape rfl (hP.cell (i:=2) rfl) ta41) rfl fun fr r=>?_);refine kP r (hP.progz (i:=0) rfl).shape rfl rfl (hP.cell (i:=4) rfl) ts41 rfl rfl fun w14 u15 r=>?_
  have hP:Post (fun b=>b∈a0F∨b∈(memK a1g a1).own) [zpT ar zpn a0 a0v a0F,memK a1g a1,zpi b1 a0v.cells 41,zpi b5 ((capC a2)).toArray 52,zpi b9 a0v.cells 41] w0 w14:=hP.upd (i:=4) rfl u15
  refine kA (.bool false) r rfl rfl fun r=>wn (ac ?_);have hv:(a0,false,a1)=res:=Option.some.inj hD
  try dsimp only [Exit.then,Exit.inBlock]
  have hs:=(hP.progz (i:=0) rfl).shape.cells;refine zc9 (fn:=Tryz.f19) r rfl rfl (v':=(.bool false)) rfl (hP.cell (i:=4) rfl) (k:=8) hs.1 ta41 ?_;rw [←hs.2.2];subst hv;exact ⟨a0v,a0F,rfl,(hP.pick [1,0] rfl rfl).done (zbo rfl (zbo rfl zc1)),fun _=>⟨rfl,rfl⟩⟩
 have hD:=(zaq h13).symm.trans hD;refine ag (wsr (kM (zp a1g.mb) r rfl rfl fun r=>kG (capC a2) 2 r rfl (hP.cell (i:=3) rfl) ta52 rfl rfl fun r=>za0 _ r (fun R=>za3 r (b:=b1) (o:=0) (k:=3) rfl zp8) rfl fun fr r=>kG (zpu (T.acc a0.2)) 4 r rfl (hP.cell (i:=2) rfl) ta38 (Rep.zoj (hP.progz (i:=0) rfl) h13) rfl fun r=>?_));obtain ⟨x16,hx16,hD⟩:=zaj hD
 refine kC r (zgv w10 a1 a2 (T.acc a0.2) (hP.sep.pk [1] rfl rfl) hx16) rfl cl65 rfl ?_;rintro _ w17 ⟨rfl,hq⟩;refine ⟨_,rfl,fun fr r=>?_⟩
 have hP:Post (fun b=>b∈a0F∨b∈(memK a1g a1).own) [zpT ar zpn a0 a0v a0F,memK a1g x16.2.2,zpi b1 a0v.cells 41,zpi b5 ((capC a2)).toArray 52,zpi b9 (kq zpn) 41] w0 w17:=hP.setN (i:=1) rfl hq
 refine kM (.tuple #[(U x16.1),(.bool x16.2.1)]) r rfl rfl fun r=>za0 (U x16.1) r (fun R=>zb1 r (vs:=#[(U x16.1),(.bool x16.2.1)]) rfl rfl) rfl fun fr r=>za0 (.bool x16.2.1) r (fun R=>zb1 r (vs:=#[(U x16.1),(.bool x16.2.1)]) rfl rfl) rfl fun fr r=>kA (U x16.1) r rfl rfl fun r=>kA (.bool x16.2.1) r rfl rfl fun r=>wn (aa (wsr (kM (.bool x16.2.1) r rfl rfl fun r=>za0 (.bool (!x16.2.1)) r (fun R=>y_un r (u:=(.bool x16.2.1)) rfl rfl) rfl fun fr r=>wn ?_)));refine ae (t:=(!x16.2.1)) (r.ev rfl) (fun h18=>?_) (fun h18=>?_)
 ·
  have hD:=(zao h18).symm.trans hD;refine wsr (za0 a0v r (fun R=>zh3 r (hP.progz (i:=0) rfl).shape rfl (hP.cell (i:=2) rfl) ta41) rfl fun fr r=>?_);refine kP r (hP.progz (i:=0) rfl).shape rfl rfl (hP.cell (i:=4) rfl) ts41 rfl rfl fun w19 u20 r=>?_
  have hP:Post (fun b=>b∈a0F∨b∈(memK a1g a1).own) [zpT ar zpn a0 a0v a0F,memK a1g x16.2.2,zpi b1 a0v.cells 41,zpi b5 ((capC a2)).toArray 52,zpi b9 a0v.cells 41] w0 w19:=hP.upd (i:=4) rfl u20
  refine kA (.bool false) r rfl rfl fun r=>wn (ac ?_);have hv:(a0,false,x16.2.2)=res:=Option.some.inj hD
  try dsimp only [Exit.then,Exit.inBlock]
  have hs:=(hP.progz (i:=0) rfl).shape.cells;refine zc9 (fn:=Tryz.f19) r rfl rfl (v':=(.bool false)) rfl (hP.cell (i:=4) rfl) (k:=8) hs.1 ta41 ?_;rw [←hs.2.2];subst hv;exact ⟨a0v,a0F,rfl,(hP.pick [1,0] rfl rfl).done (zbo rfl (zbo rfl zc1)),fun _=>⟨rfl,rfl⟩⟩
 have hD:=(zaq h18).symm.trans hD;refine ag (wsr (za0 _ r (fun R=>za3 r (b:=b1) (o:=0) (k:=7) rfl zpe) rfl fun fr r=>?_));obtain ⟨nf21,n122,n223,hv24,hk25⟩:=RepL.zm1 (hP.progl (i:=0) rfl) h13
 refine kL (kf nf21 n122 n223) r rfl (hP.cell (i:=2) rfl) to39 hv24 rfl fun r=>kM (U x16.1) r rfl rfl fun r=>?_;obtain ⟨x26,hx26,hD⟩:=zaj hD
 refine zbq r (hk25.at_.2 x26 (by rw [zlE hx26]; exact Nat.lt_succ_self _) x16.1 w17 (Same.refl _ _) (Nat.le_refl _)) (fun R hc=>zca r rfl rfl hk25.at_.1 hc) rfl ?_;rintro _ w27 ⟨v28,rfl,hb,hr29⟩
 refine ⟨_,rfl,fun fr r=>?_⟩
 have zw27:=hP.size;have hP:Post (fun b=>b∈a0F∨b∈(memK a1g a1).own) [zpT ar zpn (x26,T.next a0.2 x16.1) v28 (a0F++rg w17.heap.size w27.heap.size),memK a1g x16.2.2,zpi b1 a0v.cells 41,zpi b5 ((capC a2)).toArray 52,zpi b9 (kq zpn) 41] w0 w27:=hP.callL (k:=0) rfl hb hr29
 refine kP r (hP.progz (i:=0) rfl).shape rfl rfl (hP.cell (i:=4) rfl) ts41 rfl rfl fun w31 u32 r=>?_;have hP:Post (fun b=>b∈a0F∨b∈(memK a1g a1).own) [zpT ar zpn (x26,T.next a0.2 x16.1) v28 (a0F++rg w17.heap.size w27.heap.size),memK a1g x16.2.2,zpi b1 a0v.cells 41,zpi b5 ((capC a2)).toArray 52,zpi b9 v28.cells 41] w0 w31:=hP.upd (i:=4) rfl u32
 refine kA (.bool true) r rfl rfl fun r=>wn (ac ?_);have hv:((x26,T.next a0.2 x16.1),true,x16.2.2)=res:=Option.some.inj hD
 try dsimp only [Exit.then,Exit.inBlock]
 have hs:=(hP.progz (i:=0) rfl).shape.cells;refine zc9 (fn:=Tryz.f19) r rfl rfl (v':=(.bool true)) rfl (hP.cell (i:=4) rfl) (k:=8) hs.1 ta41 ?_;rw [←hs.2.2];subst hv;exact ⟨v28,(a0F++rg w17.heap.size w27.heap.size),rfl,(hP.pick [1,0] rfl rfl).done (zbo rfl (zbo rfl zc1)),fun h=>by cases h⟩
theorem zgM {fu:Nat} (w0:World) {a0v:Value} {a0F:List Nat} (a0:Nat × T Res) {a1g:MG} (a1:Mem) (a2:Cap) (a3:Int) (hS:Sep [zpT ar zpn a0 a0v a0F,memK a1g a1] w0) {res:Res × Int × Bool × Mem} (hD:D.zdK fu a0 a1 a2 a3=some res) :
    Calls ar 29 #[a0v,zp a1g.mb,aq (capC a2),.int .i64 a3] w0 (fun e w'=>e=.returned (.tuple #[(aq (resC res.1)),(.int .i64 res.2.1),(.bool res.2.2.1)])∧Done (fun b=>b∈a0F∨b∈(memK a1g a1).own) No [memK a1g res.2.2.2] w0 w'):=by
 refine enter Tryz.func29 rfl 39 rfl rfl fun fr r=>?_;have hP:Post (fun b=>b∈a0F∨b∈(memK a1g a1).own) [zpT ar zpn a0 a0v a0F,memK a1g a1] w0 w0:=.start hS yaw
 unfold D.zdK at hD
 refine wsr ?_;refine kX 41 a0v r rfl rfl fun b1 w2 n3 r=>?_;have hP:Post (fun b=>b∈a0F∨b∈(memK a1g a1).own) [zpT ar zpn a0 a0v a0F,memK a1g a1,zpi b1 a0v.cells 41] w0 w2:=hP.new n3
 refine kX 52 (aq (capC a2)) r rfl rfl fun b5 w6 n7 r=>?_;have hP:Post (fun b=>b∈a0F∨b∈(memK a1g a1).own) [zpT ar zpn a0 a0v a0F,memK a1g a1,zpi b1 a0v.cells 41,zpi b5 ((capC a2)).toArray 52] w0 w6:=hP.new n7
 refine za7 (.cells ((resC (⟨0,0⟩:Res))).toArray 36 (0,0)) r (fun R=>za6 tz36) rfl fun fr b9 w10 n11 r=>?_;have hP:Post (fun b=>b∈a0F∨b∈(memK a1g a1).own) [zpT ar zpn a0 a0v a0F,memK a1g a1,zpi b1 a0v.cells 41,zpi b5 ((capC a2)).toArray 52,zpi b9 ((resC (⟨0,0⟩:Res))).toArray 36] w0 w10:=hP.new n11
 refine kA (I 0) r rfl rfl fun r=>kA (.bool false) r rfl rfl fun r=>wn (wsr (kA (I 0) r rfl rfl fun r=>wn (aa ?_)));refine zdZ (X:=Int × Mem × (Nat × T Res)) (G:=Value × List Nat) (x0:=(0,a1,a0)) (fun x γ=>[(0,a0v),(1,(zp a1g.mb)),(2,(aq (capC a2))),(3,(I a3)),(4,(zp b1)),(6,(zp b5)),(8,(zp b9)),(9,(I 0)),(10,(.bool false)),(11,(I x.1))]) (fun x γ w=>Post (fun b=>b∈a0F∨b∈(memK a1g a1).own) [zpT ar zpn x.2.2 γ.1 γ.2,memK a1g x.2.1,zpi b1 γ.1.cells 41,zpi b5 ((capC a2)).toArray 52,zpi b9 ((resC (⟨0,0⟩:Res))).toArray 36] w0 w) (a0v,a0F) r (kO (kO (zaa rfl (zaa rfl zaC)))) hP hD ?_ ?_
 ·
  rintro x13 γ14 fr w16 g y15 RPy15 nxy15 bky15 rty15 r hP hD;have hP:Post (fun b=>b∈a0F∨b∈(memK a1g a1).own) [zpT ar zpn x13.2.2 γ14.1 γ14.2,memK a1g x13.2.1,zpi b1 γ14.1.cells 41,zpi b5 ((capC a2)).toArray 52,zpi b9 ((resC (⟨0,0⟩:Res))).toArray 36] w0 w16:=hP
  refine aa (aa ?_);refine zbs (N:=39) (Y:=Bool) (G:=Unit) (fun x γ=>[(0,a0v),(1,(zp a1g.mb)),(2,(aq (capC a2))),(3,(I a3)),(4,(zp b1)),(6,(zp b5)),(8,(zp b9)),(9,(I 0)),(10,(.bool false)),(11,(I x13.1)),(21,(.bool x))]) (fun x γ w=>Post (fun b=>b∈a0F∨b∈(memK a1g a1).own) [zpT ar zpn x13.2.2 γ14.1 γ14.2,memK a1g x13.2.1,zpi b1 γ14.1.cells 41,zpi b5 ((capC a2)).toArray 52,zpi b9 ((resC (⟨0,0⟩:Res))).toArray 36] w0 w) hD ?_ ?_
  ·
   rintro y17 RPy17 nxy17 hD;refine af (kM (I x13.1) r rfl rfl fun r=>kM (I a3) r rfl rfl fun r=>kB r rfl rfl rfl rfl rfl fun r=>kM (.bool (decide (x13.1<a3))) r rfl rfl fun r=>?_);refine zaT (decide (x13.1<a3)) (fun h18=>?_) (fun h18=>?_)
   ·
    have hD:=(zao h18).symm.trans hD;refine s1 r h18 (za0 _ r (fun R=>za3 r (b:=b1) (o:=0) (k:=0) rfl zne) rfl fun fr r=>s1 r h18 (kL (.bool x13.2.2.2.zpB) r rfl (hP.cell (i:=2) rfl) to4 (Rep.ziL (hP.progz (i:=0) rfl)) rfl fun r=>s1 r h18 (za0 (.bool (!x13.2.2.2.zpB)) r (fun R=>y_un r (u:=(.bool x13.2.2.2.zpB)) rfl rfl) rfl fun fr r=>za0 (.bool (!x13.2.2.2.zpB)) r (fun R=>zay r (b:=true) (kb h18) rfl) rfl fun fr r=>wn ?_)));exact nxy17 (!x13.2.2.2.zpB) () _ _ _ hD r (kO (kO (zaa rfl (zaa rfl (zaa rfl zaC))))) (hP.pick [0,1,2,3,4] rfl rfl)
   have hD:=(zaq h18).symm.trans hD;refine s0 r h18 fun fr r=>s0 r h18 fun fr r=>s0 r h18 fun fr r=>za0 (.bool false) r (fun R=>zay r (b:=false) (kb h18) rfl) rfl fun fr r=>wn ?_;exact nxy17 false () _ _ _ hD r (kO (kO (zaa rfl (zaa rfl (zaa rfl zaC))))) (hP.pick [0,1,2,3,4] rfl rfl)
  rintro x19 γ20 fr w21 g r hP hD;have hP:Post (fun b=>b∈a0F∨b∈(memK a1g a1).own) [zpT ar zpn x13.2.2 γ14.1 γ14.2,memK a1g x13.2.1,zpi b1 γ14.1.cells 41,zpi b5 ((capC a2)).toArray 52,zpi b9 ((resC (⟨0,0⟩:Res))).toArray 36] w0 w21:=hP
  refine ae (t:=x19) (r.ev rfl) (fun h22=>?_) (fun h22=>?_)
  ·
   have hD:=(zao h22).symm.trans hD;refine ag (wp_block (wsr (za0 γ14.1 r (fun R=>zh3 r (hP.progz (i:=0) rfl).shape rfl (hP.cell (i:=2) rfl) ta41) rfl fun fr r=>kM (zp a1g.mb) r rfl rfl fun r=>kG (capC a2) 2 r rfl (hP.cell (i:=3) rfl) ta52 rfl rfl fun r=>?_)));obtain ⟨x23,hx23,hD⟩:=zaj hD
   have hsh:=(hP.progz (i:=0) rfl).shape.cells.1;refine kC r (zh7 w21 x13.2.2 x13.2.1 a2 (hP.sep.pk [0,1] rfl rfl) hx23) rfl cl19 rfl ?_;rintro _ w24 ⟨v25,F26,rfl,hq,hsame⟩;refine ⟨_,rfl,fun fr r=>?_⟩
   have hP:Post (fun b=>b∈a0F∨b∈(memK a1g a1).own) [zpT ar zpn x23.1 v25 F26,memK a1g x23.2.2,zpi b1 γ14.1.cells 41,zpi b5 ((capC a2)).toArray 52,zpi b9 ((resC (⟨0,0⟩:Res))).toArray 36] w0 w24:=(Post.frame (A:=[zpi b1 γ14.1.cells 41,zpi b5 ((capC a2)).toArray 52,zpi b9 ((resC (⟨0,0⟩:Res))).toArray 36]) (B:=[zpT ar zpn x13.2.2 γ14.1 γ14.2,memK a1g x13.2.1,]) (hP.pick [2,3,4,0,1] rfl rfl) hq (fun b hb=>hb.elim (fun h=>⟨_,List.mem_cons_self ..,h⟩) fun h=>⟨_,List.mem_cons_of_mem _ (List.mem_singleton.2 rfl),h⟩)).pick [4,3,0,1,2] rfl rfl
   refine kM (.tuple #[v25,(.bool x23.2.1)]) r rfl rfl fun r=>za0 v25 r (fun R=>zb1 r (vs:=#[v25,(.bool x23.2.1)]) rfl rfl) rfl fun fr r=>za0 (.bool x23.2.1) r (fun R=>zb1 r (vs:=#[v25,(.bool x23.2.1)]) rfl rfl) rfl fun fr r=>?_;refine za7 (.cells (kq zpn) 41 (0,0)) r (fun R=>za6 tz41) rfl fun fr b28 w29 n30 r=>?_
   have hP:Post (fun b=>b∈a0F∨b∈(memK a1g a1).own) [zpT ar zpn x23.1 v25 F26,memK a1g x23.2.2,zpi b1 γ14.1.cells 41,zpi b5 ((capC a2)).toArray 52,zpi b9 ((resC (⟨0,0⟩:Res))).toArray 36,zpi b28 (kq zpn) 41] w0 w29:=hP.new n30
   refine kP r (hP.progz (i:=0) rfl).shape rfl rfl (hP.cell (i:=5) rfl) ts41 rfl rfl fun w32 u33 r=>?_;have hP:Post (fun b=>b∈a0F∨b∈(memK a1g a1).own) [zpT ar zpn x23.1 v25 F26,memK a1g x23.2.2,zpi b1 γ14.1.cells 41,zpi b5 ((capC a2)).toArray 52,zpi b9 ((resC (⟨0,0⟩:Res))).toArray 36,zpi b28 v25.cells 41] w0 w32:=hP.upd (i:=5) rfl u33
   refine kA (.bool x23.2.1) r rfl rfl fun r=>wn (aa (wsr (kM (.bool x23.2.1) r rfl rfl fun r=>za0 (.bool (!x23.2.1)) r (fun R=>y_un r (u:=(.bool x23.2.1)) rfl rfl) rfl fun fr r=>wn ?_)));refine ae (t:=(!x23.2.1)) (r.ev rfl) (fun h34=>?_) (fun h34=>?_)
   ·
    have hD:=(zao h34).symm.trans hD;refine wp_exit ?_;obtain ⟨e1,e2⟩:=hsame (by simpa using h34)
    rw [e1,e2] at hP
    exact bky15 (x13.1,x23.2.2,x13.2.2) (γ14.1,F26) _ _ _ hD r (kO (kO (zaa rfl (zaa rfl zaC)))) (hP.pick [0,1,2,3,4] rfl rfl)
   have hD:=(zaq h34).symm.trans hD;refine ag (wsr (za0 v25 r (fun R=>zh3 r (hP.progz (i:=0) rfl).shape rfl (hP.cell (i:=5) rfl) ta41) rfl fun fr r=>?_));refine kP r (hP.progz (i:=0) rfl).shape rfl rfl (hP.cell (i:=2) rfl) ts41 (by have h:=hsh; simpa using h) rfl fun w35 u36 r=>?_
   have hP:Post (fun b=>b∈a0F∨b∈(memK a1g a1).own) [zpT ar zpn x23.1 v25 F26,memK a1g x23.2.2,zpi b1 v25.cells 41,zpi b5 ((capC a2)).toArray 52,zpi b9 ((resC (⟨0,0⟩:Res))).toArray 36,zpi b28 v25.cells 41] w0 w35:=hP.upd (i:=2) rfl u36
   refine wn ?_;refine af (kM (I x13.1) r rfl rfl fun r=>kB r rfl rfl rfl rfl rfl fun r=>kA (I (W (x13.1+1))) r rfl rfl fun r=>wn ?_);exact nxy15 ((W (x13.1+1)),x23.2.2,x23.1) (v25,F26) _ _ _ hD r (kO (kO (zaa rfl (zaa rfl zaC)))) (hP.pick [0,1,2,3,4] rfl rfl)
  have hD:=(zaq h22).symm.trans hD;refine wp_exit ?_;exact bky15 (x13.1,x13.2.1,x13.2.2) (γ14.1,γ14.2) _ _ _ hD r (kO (kO (zaa rfl (zaa rfl zaC)))) (hP.pick [0,1,2,3,4] rfl rfl)
 rintro x37 γ38 fr w39 g r hP hD;have hP:Post (fun b=>b∈a0F∨b∈(memK a1g a1).own) [zpT ar zpn x37.2.2 γ38.1 γ38.2,memK a1g x37.2.1,zpi b1 γ38.1.cells 41,zpi b5 ((capC a2)).toArray 52,zpi b9 ((resC (⟨0,0⟩:Res))).toArray 36] w0 w39:=hP
 refine aa ?_;refine zjr [b9] [.val (.pointer (some ⟨b1,1,none⟩)),.val (aq (resC (T.res (⟨0,0⟩:Res) x37.2.2.2))),.val (I x37.1),.val (zp b1),.val (.bool x37.2.2.2.zpB),.eff (EffP w39.heap.size (zpi b9 ((resC (T.res (⟨0,0⟩:Res) x37.2.2.2))).toArray 36) (fun _:Unit=>undef) (fun _:Unit=>[])) (EffP.st _ _ _ _),.val (I x37.1),.val (.bool x37.2.2.2.zpB)] mixed r (fun b hb=>hP.sep.lt (i:=4) rfl (.inl hb)) kz ?_ ?_
 ·
  refine zbe r rfl kz (fun fr1 g w' hb' hd r'=>?_) ?_
  · exact za3 r' (b:=b1) (o:=0) (k:=1) rfl zp5 bz
  refine zbe r rfl kz (fun fr1 g w' hb' hd r'=>?_) ?_
  · exact zac r' (cs:=(resC (T.res (⟨0,0⟩:Res) x37.2.2.2))) (n:=2) (hd 0 rfl).1 ((hP.below (dr hb')).cell (i:=2) rfl) ta36 (Rep.zp9 (d:=(⟨0,0⟩:Res)) rfl ((hP.below (dr hb')).progz (i:=0) rfl)) bz
  refine zaK r rfl (fun fr1 g w' hk' hd r'=>?_) ?_
  · exact zar r' (v:=(I x37.1)) rfl bz
  refine zaK r rfl (fun fr1 g w' hk' hd r'=>?_) ?_
  · exact za3 r' (b:=b1) (o:=0) (k:=0) rfl zne bz
  refine zaK r rfl (fun fr1 g w' hk' hd r'=>?_) ?_
  · exact za4 r' (v:=(.bool x37.2.2.2.zpB)) (hd 3 rfl).1 (hP.cellK (j:=4) rfl (drK hk') (i:=2) rfl rfl) to4 (Rep.ziL (RepL.zero (show RepL _ _ _ _ _ _ _ from hP.okK (j:=4) rfl (drK hk') (i:=0) rfl rfl))) bz
  refine zbe r rfl kz (fun fr1 g w' hb' hd r'=>?_) ?_
  · exact zax r' (o:=0) (v:=(aq (resC (T.res (⟨0,0⟩:Res) x37.2.2.2)))) rfl (hd 1 rfl).1 ((hP.below (dr hb')).cell (i:=4) rfl) ts36 ak rfl rfl (fun w2 u2=>⟨u2.kept,(),rfl,u2.at_,(fun b hb=>hP.sep.lt (i:=4) rfl hb),zlm⟩)
  refine zaK r rfl (fun fr1 g w' hk' hd r'=>?_) ?_
  · exact zbW r' (v:=(I x37.1)) (hd 2 rfl).1 bz
  refine zaK r rfl (fun fr1 g w' hk' hd r'=>?_) ?_
  · exact zbW r' (v:=(.bool x37.2.2.2.zpB)) (hd 4 rfl).1 bz
  exact zb4
 intro fr gg w40 hb hΦ hap r;obtain ⟨⟨⟩,g5,hcE,_,hs5⟩:=(hΦ 5 rfl).1;have r:=r.congr (sc ((hΦ 7 rfl).1) (sc ((hΦ 6 rfl).1) (sc ((hΦ 4 rfl).1) (sc ((hΦ 3 rfl).1) (sc ((hΦ 2 rfl).1) (sc ((hΦ 1 rfl).1) (sc ((hΦ 0 rfl).1) rfl)))))));have hP:Post (fun b=>b∈a0F∨b∈(memK a1g a1).own) [zpT ar zpn x37.2.2 γ38.1 γ38.2,memK a1g x37.2.1,zpi b1 γ38.1.cells 41,zpi b5 ((capC a2)).toArray 52,zpi b9 ((resC (T.res (⟨0,0⟩:Res) x37.2.2.2))).toArray 36] w0 w40:=hP.effL (i:=4) (l:=[]) rfl hb hcE rfl rfl trivial
 refine ac ?_;have hv:((T.res (⟨0,0⟩:Res) x37.2.2.2),x37.1,x37.2.2.2.zpB,x37.2.1)=res:=Option.some.inj hD
 try dsimp only [Exit.then,Exit.inBlock]
 refine zib (fn:=Tryz.f29) r rfl rfl (v':=(I x37.1)) (v2:=(.bool x37.2.2.2.zpB)) rfl rfl (hP.cell (i:=4) rfl) (k:=2) rfl ta36 ?_;subst hv;exact ⟨rfl,(hP.pick [1] rfl rfl).done (zbo rfl zc1)⟩
theorem cl42:zpf ar 42:=kz
theorem is82:isSlice ar 82:=kz
theorem rt82:rowTy ar 82 104 2:=kz
def D.zex (fu:Nat) (a0:Plan) (a1:Mem) (a2:Int) (a3:Int):Option (List Entry):=((D.zbL fu a1 a2 a3).bind (fun (x5:Int)=>(loopThen (fun (x8:List Entry × Int × Int)=>(Option.bind (bif (decide (x8.2.2<a0.nodes)) then (some (decide ((D.zai x8.2.1)≥0))) else (some false)) (fun (x15:Bool)=>(bif x15 then ((D.zbL fu a1 a2 (D.za8 a0 (D.zai x8.2.1) 2)).bind (fun (x21:Int)=>(Option.bind (bif ((zbb .u64 x21 1)==0) then ((D.zbL fu a1 a2 (D.za8 a0 (D.zai x8.2.1) 0)).bind (fun (x25:Int)=>((D.zbL fu a1 a2 (D.za8 a0 (D.zai x8.2.1) 1)).bind (fun (x26:Int)=>((appD x8.1 ([(⟨x25,x26⟩:Entry)])).bind (fun (x30:List Entry)=>(some x30))))))) else (some x8.1)) (fun (x34:List Entry)=>(some (Lp.next (x34,x21,(IntKind.i64.wrap (x8.2.2+1))))))))) else (some (Lp.brk (x8.1,x8.2.1,x8.2.2))))))) fu ([],x5,0) (fun (x37:List Entry × Int × Int)=>(some x37.1)))))
theorem zk6 {fu:Nat} (w0:World) (a0:Plan) {a1g:MG} (a1:Mem) (a1h:MemAt a1g a1 w0) (a2:Int) (a3:Int) {res:List Entry} (hD:D.zex fu a0 a1 a2 a3=some res) :
    Calls ar 42 #[aq (zpg a0),zp a1g.mb,.int .i64 a2,.int .i64 a3] w0 (fun e w'=>∃ (v0:Value),e=.returned v0∧Done No No [rowK 104 2 zpw v0 res] w0 w'):=by
 refine enter Tryz.func42 rfl 56 rfl rfl fun fr r=>?_;have hP:Post No [] w0 w0:=Post.nil w0
 have hP:Post No [memR a1g a1] w0 w0:=hP.addRo zcM a1h rfl a1h.lt;unfold D.zex at hD
 refine wsr ?_;refine kX 23 (aq (zpg a0)) r rfl rfl fun b1 w2 n3 r=>?_;have hP:Post No [_,zpi b1 ((zpg a0)).toArray 23] w0 w2:=hP.new n3
 refine kA kS r rfl rfl fun r=>wn (wsr (kA kS r rfl rfl fun r=>wn (wsr (kM (zp a1g.mb) r rfl rfl fun r=>kM (I a2) r rfl rfl fun r=>kM (I a3) r rfl rfl fun r=>?_))));obtain ⟨x5,hx5,hD⟩:=zaj hD
 refine kE r (zdb w2 a1 (hP.memr (i:=0) rfl) a2 a3 hx5) rfl cl21 rfl fun w6 hb r=>?_;have hP:=hP.below hb
 refine kA (U x5) r rfl rfl fun r=>wn (aa (wsr (kA (I 0) r rfl rfl fun r=>wn ?_)));have hP:Post No [_,_,rowK 104 2 zpw kS ([])] w0 w6:=hP.nilRow 104 2 zpw
 refine zdZ (X:=List Entry × Int × Int) (G:=Value) (x0:=([],x5,0)) (fun x γ=>[(0,(aq (zpg a0))),(1,(zp a1g.mb)),(2,(I a2)),(3,(I a3)),(4,(zp b1)),(8,kS),(9,γ),(10,(U x.2.1)),(11,(I x.2.2))]) (fun x γ w=>Post No [memR a1g a1,zpi b1 ((zpg a0)).toArray 23,rowK 104 2 zpw γ x.1] w0 w) kS r (kO (kO (zaa rfl zaC))) hP hD ?_ ?_
 ·
  rintro x8 γ9 fr w11 g y10 RPy10 nxy10 bky10 rty10 r hP hD;have hP:Post No [_,_,_] w0 w11:=hP;refine aa (aa ?_);refine zbs (N:=56) (Y:=Bool) (G:=Unit) (fun x γ=>[(0,(aq (zpg a0))),(1,(zp a1g.mb)),(2,(I a2)),(3,(I a3)),(4,(zp b1)),(8,kS),(9,γ9),(10,(U x8.2.1)),(11,(I x8.2.2)),(25,(.bool x))]) (fun x γ w=>Post No [memR a1g a1,zpi b1 ((zpg a0)).toArray 23,rowK 104 2 zpw γ9 x8.1] w0 w) hD ?_ ?_
  ·
   rintro y12 RPy12 nxy12 hD;refine af (kM (I x8.2.2) r rfl rfl fun r=>kF 0 r rfl ziV rfl fun r=>kL (I a0.nodes) r rfl (hP.cell (i:=1) rfl) to3 rfl rfl fun r=>kB r rfl rfl rfl rfl rfl fun r=>kM (.bool (decide (x8.2.2<a0.nodes))) r rfl rfl fun r=>?_);refine zaT (decide (x8.2.2<a0.nodes)) (fun h13=>?_) (fun h13=>?_)
   ·
    have hD:=(zao h13).symm.trans hD;refine s1 r h13 (kM (U x8.2.1) r rfl rfl fun r=>s1 r h13 ?_);refine kE r (zc8 w11 x8.2.1) rfl cl88 rfl fun w14 hb r=>?_
    have hP:=hP.below hb;refine s1 r h13 (kB r rfl rfl rfl rfl rfl fun r=>za0 (.bool (decide ((D.zai x8.2.1)≥0))) r (fun R=>zay r (b:=true) (kb h13) rfl) rfl fun fr r=>wn ?_);exact nxy12 (decide ((D.zai x8.2.1)≥0)) () _ _ _ hD r (kO (kO (zaa rfl (zaa rfl zaC)))) (hP.pick [0,1,2] rfl rfl)
   have hD:=(zaq h13).symm.trans hD;refine s0 r h13 fun fr r=>s0 r h13 fun fr r=>s0 r h13 fun fr r=>za0 (.bool false) r (fun R=>zay r (b:=false) (kb h13) rfl) rfl fun fr r=>wn ?_;exact nxy12 false () _ _ _ hD r (kO (kO (zaa rfl (zaa rfl zaC)))) (hP.pick [0,1,2] rfl rfl)
  rintro x15 γ16 fr w17 g r hP hD;have hP:Post No [_,_,_] w0 w17:=hP;refine ae (t:=x15) (r.ev rfl) (fun h18=>?_) (fun h18=>?_)
  ·
   have hD:=(zao h18).symm.trans hD;refine ag (aa (wp_block (wsr (kM (U x8.2.1) r rfl rfl fun r=>?_))));refine kE r (zc8 w17 x8.2.1) rfl cl88 rfl fun w19 hb r=>?_
   have hP:=hP.below hb;refine kA (I (D.zai x8.2.1)) r rfl rfl fun r=>wn (wsr (kM (zp a1g.mb) r rfl rfl fun r=>kM (I a2) r rfl rfl fun r=>kG (zpg a0) 6 r rfl (hP.cell (i:=1) rfl) ta23 rfl rfl fun r=>kM (I (D.zai x8.2.1)) r rfl rfl fun r=>?_));refine kE r (zaY w19 a0 (D.zai x8.2.1) 2) rfl cl89 rfl fun w20 hb r=>?_
   have hP:=hP.below hb;obtain ⟨x21,hx21,hD⟩:=zaj hD;refine kE r (zdb w20 a1 (hP.memr (i:=0) rfl) a2 (D.za8 a0 (D.zai x8.2.1) 2) hx21) rfl cl21 rfl fun w22 hb r=>?_;have hP:=hP.below hb
   refine kA (U x21) r rfl rfl fun r=>wn (wsr (kM (U x21) r rfl rfl fun r=>kB r rfl rfl rfl rfl rfl fun r=>kB r rfl rfl rfl rfl rfl fun r=>wn ?_));refine zbs (N:=56) (Y:=List Entry) (G:=Value) (fun x γ=>[(0,(aq (zpg a0))),(1,(zp a1g.mb)),(2,(I a2)),(3,(I a3)),(4,(zp b1)),(8,kS),(10,(U x21)),(11,(I x8.2.2)),(25,(.bool x15)),(12,(I (D.zai x8.2.1))),(38,(.bool ((zbb .u64 x21 1)==0))),(9,γ)]) (fun x γ w=>Post No [memR a1g a1,zpi b1 ((zpg a0)).toArray 23,rowK 104 2 zpw γ x] w0 w) hD ?_ ?_
   ·
    rintro y23 RPy23 nxy23 hD;refine ae (t:=((zbb .u64 x21 1)==0)) (r.ev rfl) (fun h24=>?_) (fun h24=>?_)
    ·
     have hD:=(zao h24).symm.trans hD;obtain ⟨x25,hx25,hD⟩:=zaj hD;obtain ⟨x26,hx26,hD⟩:=zaj hD;refine zmb 15 [.val γ9,.val (zp a1g.mb),.val (I a2),.val (aq (zpg a0)),.val (I (D.zai x8.2.1)),.val (I (D.za8 a0 (D.zai x8.2.1) 0)),.val (U x25),.val (zp a1g.mb),.val (I a2),.val (aq (zpg a0)),.val (I (D.zai x8.2.1)),.val (I (D.za8 a0 (D.zai x8.2.1) 1)),.val (U x26),.val (aq (zpw (⟨x25,x26⟩:Entry))),.pred (MkP (fun v:Value=>v) (fun v:Value=>[rowK 104 2 zpw v ([(⟨x25,x26⟩:Entry)])])) (MkP.st _ _)] mixed r kz ?_ ?_
     ·
      refine fc r (fun fr1 g w' hb' hd r'=>zar r' rfl bz) ?_;refine fc r (fun fr1 g w' hb' hd r'=>zar r' rfl bz) ?_
      refine fc r (fun fr1 g w' hb' hd r'=>zar r' rfl bz) ?_;refine fc r (fun fr1 g w' hb' hd r'=>zac r' (cs:=(zpg a0)) (n:=6) rfl ((hP.below (dr hb')).cell (i:=1) rfl) ta23 rfl bz) ?_
      refine fc r (fun fr1 g w' hb' hd r'=>zar r' rfl bz) ?_;refine fc r (fun fr1 g w' hb' hd r'=>zaF r' (args:=[(aq (zpg a0)),(I (D.zai x8.2.1)),(I 0)]) (lc (hd 3 rfl).1 (lc (hd 4 rfl).1 (lc rfl l0))) cl89 ((zaY _ a0 (D.zai x8.2.1) 0).mono yab)) ?_
      refine fc r (fun fr1 g w' hb' hd r'=>zaF r' (args:=[(zp a1g.mb),(I a2),(I (D.za8 a0 (D.zai x8.2.1) 0))]) (lc (hd 1 rfl).1 (lc (hd 2 rfl).1 (lc (hd 5 rfl).1 l0))) cl21 ((zdb _ a1 ((hP.below (dr hb')).memr (i:=0) rfl) a2 (D.za8 a0 (D.zai x8.2.1) 0) hx25).mono yab)) ?_;refine fc r (fun fr1 g w' hb' hd r'=>zar r' rfl bz) ?_
      refine fc r (fun fr1 g w' hb' hd r'=>zar r' rfl bz) ?_;refine fc r (fun fr1 g w' hb' hd r'=>zac r' (cs:=(zpg a0)) (n:=6) rfl ((hP.below (dr hb')).cell (i:=1) rfl) ta23 rfl bz) ?_
      refine fc r (fun fr1 g w' hb' hd r'=>zar r' rfl bz) ?_;refine fc r (fun fr1 g w' hb' hd r'=>zaF r' (args:=[(aq (zpg a0)),(I (D.zai x8.2.1)),(I 1)]) (lc (hd 9 rfl).1 (lc (hd 10 rfl).1 (lc rfl l0))) cl89 ((zaY _ a0 (D.zai x8.2.1) 1).mono yab)) ?_
      refine fc r (fun fr1 g w' hb' hd r'=>zaF r' (args:=[(zp a1g.mb),(I a2),(I (D.za8 a0 (D.zai x8.2.1) 1))]) (lc (hd 7 rfl).1 (lc (hd 8 rfl).1 (lc (hd 11 rfl).1 l0))) cl21 ((zdb _ a1 ((hP.below (dr hb')).memr (i:=0) rfl) a2 (D.za8 a0 (D.zai x8.2.1) 1) hx26).mono yab)) ?_;refine fc r (fun fr1 g w' hb' hd r'=>zgz r' (v:=(aq (zpw (⟨x25,x26⟩:Entry)))) (bs2 (congrArg (fun z=>(0,z)) (hd 6 rfl).1) (congrArg (fun z=>(1,z)) (hd 12 rfl).1) kz) bz) ?_
      refine fc r (fun fr1 g w' hb' hd r'=>zcO r' (c:=(([(⟨x25,x26⟩:Entry)]).flatMap zpw).toArray) (E:=104) (bs1 (congrArg (fun z=>(0,z)) (hd 13 rfl).1) kz) (fun b w2 n2=>⟨n2.below,MkP.newRow n2 (fun _=>rfl) rfl⟩)) ?_;exact zb4
     intro fr gg w29 hb hΦ hap r;obtain ⟨v27,g14,hs14⟩:=(hΦ 14 rfl).1;have r:=r.congr (sc g14 (sc ((hΦ 13 rfl).1) (sc ((hΦ 12 rfl).1) (sc ((hΦ 11 rfl).1) (sc ((hΦ 10 rfl).1) (sc ((hΦ 9 rfl).1) (sc ((hΦ 8 rfl).1) (sc ((hΦ 7 rfl).1) (sc ((hΦ 6 rfl).1) (sc ((hΦ 5 rfl).1) (sc ((hΦ 4 rfl).1) (sc ((hΦ 3 rfl).1) (sc ((hΦ 2 rfl).1) (sc ((hΦ 1 rfl).1) (sc ((hΦ 0 rfl).1) rfl)))))))))))))));have hP:Post No [_,_,_,rowK 104 2 zpw v27 ([(⟨x25,x26⟩:Entry)])] w0 w29:=hP.addL (l:=[([rowK 104 2 zpw v27 ([(⟨x25,x26⟩:Entry)])],(gg 14).lo,(gg 14).hi)]) hb ⟨hs14,(hΦ 14 rfl).2.1,zeM,trivial⟩;obtain ⟨x30,hx30,hD⟩:=zaj hD;refine zm3 104 2 zpw γ9 r (fun R=>zkK r rt82 (fun _=>rfl) (fun _=>rfl) (hP.row (i:=2) rfl) (hP.row (i:=3) rfl).ro hx30 rfl rfl) rfl fun fr v31 w32 ha33 r=>?_;have hP:Post No [_,_,rowK 104 2 zpw v31 x30,_] w0 w32:=hP.append (i:=2) rfl ha33
     refine kA v31 r rfl rfl fun r=>wn ?_;exact nxy23 x30 v31 _ _ _ hD r (kO (kO (kO zaC))) (hP.pick [0,1,2] rfl rfl)
    have hD:=(zaq h24).symm.trans hD;refine ag ?_;exact nxy23 x8.1 γ9 _ _ _ hD r (kO (kO (kO zaC))) (hP.pick [0,1,2] rfl rfl)
   rintro x34 γ35 fr w36 g r hP hD;have hP:Post No [_,_,_] w0 w36:=hP;refine af (kM (I x8.2.2) r rfl rfl fun r=>kB r rfl rfl rfl rfl rfl fun r=>kA (I (W (x8.2.2+1))) r rfl rfl fun r=>wn ?_);exact nxy10 (x34,x21,(W (x8.2.2+1))) γ35 _ _ _ hD r (kO (kO (zaa rfl zaC))) (hP.pick [0,1,2] rfl rfl)
  have hD:=(zaq h18).symm.trans hD;refine wp_exit ?_;exact bky10 (x8.1,x8.2.1,x8.2.2) γ9 _ _ _ hD r (kO (kO (zaa rfl zaC))) (hP.pick [0,1,2] rfl rfl)
 rintro x37 γ38 fr w39 g r hP hD;have hP:Post No [_,_,_] w0 w39:=hP;refine wsr (kM γ38 r rfl rfl fun r=>kA γ38 r rfl rfl fun r=>wn (ac ?_));have hv:x37.1=res:=Option.some.inj hD
 try dsimp only [Exit.then,Exit.inBlock]
 refine zaH (fn:=Tryz.f42) r (t:=8) rfl (v:=γ38) rfl ?_;subst hv;exact ⟨γ38,rfl,(hP.pick [2] rfl rfl).done (zbo rfl zc1)⟩
theorem zmS {p:Plan} (hp:PF p) (hnn:p.nodes≤1000) {M:Mem} (hl:Len p M.ws) {c:Int} (hc:0≤c∧c<D.zab p) {l:List Int} (hL:zpA p M.ws c l) (hle:(l.length:Int)≤p.nodes) {fu:Nat} (hfu:1001<fu) :
  D.zex fu p M 0 c=some (ents p M.ws l):=by
 have hN:=zbp hp;unfold Len at hl
 unfold D.zex;rw [zl5 kw kw,hL.word];simp only [Option.bind_some];refine zjo (fun o=>o=some (ents p M.ws l)) (fun (i:Nat) (x:List Entry × Int × Int)=>∃ pre suf,l=pre++suf∧pre.length=i∧x=(ents p M.ws pre,lw suf,(i:Int))) l.length fu ⟨[],l,rfl,rfl,rfl⟩ kw ?_ ?_
 ·rintro i _ hi ⟨pre,suf,e,hpl,rfl⟩
  obtain ⟨q,s,rfl⟩:∃ q s,suf=q::s:=by
   cases suf with
   | nil=>rw [e] at hi; simp at hi; omega
   | cons q s=>exact ⟨q,s,rfl⟩
  have hLq:=zpA.app (e ▸ hL);have hq:=hLq.2.1;obtain ⟨q1,q2,q3⟩:=zqu hp hq;have ec:D.zai (lw (q::s))=q:=lnode kw kw
  have hfp:∀ f,fp p q f=sp p q+2+f:=fun f=>rfl
  have hfl:∀ f,0≤f→f<3→D.za8 p q f=fp p q f:=fun f f0 f1=>zr4 hp hq ⟨f0,f1⟩
  simp only
  rw [show decide ((i:Int)<p.nodes)=true from by simp; omega,ec,show decide (q≥0)=true from by simpa using hq.1]
  simp only [cond_true,Option.bind_some]
  rw [hfl 2 kw kw,hfl 0 kw kw,hfl 1 kw kw,zl5 yak yak,hLq.2.2.word]
  simp only [Option.bind_some]
  rw [znj hLq.2.2 hnn]
  simp only [show ((0:Int)==0)=true from rfl,cond_true]
  rw [zl5 yak yak,zl5 yak yak]
  simp only [Option.bind_some]
  have hpn:(pre.length:Int)≤1000:=kw
  have ha:appD (ents p M.ws pre) [(⟨rd M.ws (fp p q 0),rd M.ws (fp p q 1)⟩:Entry)]=some (ents p M.ws (pre++[q])):=by
   unfold appD;rw [if_pos (by simp only [zm0,List.length_singleton,ents,List.length_map]; omega)];unfold ents;rw [List.map_append]
   rfl
  rw [ha]
  simp only [Option.bind_some]
  rw [zaQ (show -1000000≤(i:Int)+1 by omega) kw]
  exact ⟨_,rfl,pre++[q],s,by rw [e]; simp,by simp [hpl],rfl⟩
 ·rintro _ ⟨pre,suf,e,hpl,rfl⟩
  have hs:suf=[]:=by
   have:=congrArg List.length e;rw [List.length_append] at this
   exact List.length_eq_zero_iff.1 kw
  subst hs;rw [List.append_nil] at e
  subst e;have ec:D.zai (lw [])=-1:=znx;simp only;rw [ec];refine ⟨(ents p M.ws l,lw [],(l.length:Int)),?_,rfl⟩;cases decide ((l.length:Int)<p.nodes) <;> rfl
theorem LAt.start {p:Plan} (hp:PF p) {ws:List Int} (h:LaidAt p ws) {t:Int} (ht:0≤t∧t<p.threads) {c:Int} (hc:rd ws c=0):LAt p t ws ⟨allN p,[],fun _=>⟨0,0,0⟩⟩ 0 c []∧Alone p ws:=by
 have hP:=PoolAt.start hp h ht;refine ⟨⟨hP.toH,fun j j0 j1=>?_,hc,List.nodup_nil,fun q hq=>(by cases hq),List.Pairwise.nil⟩,hP.hz⟩
 have:=hP.hz (t * 3+j) kw kw
 rw [←Int.add_assoc] at this
 exact this
def D.zbD (a0:Plan) (a1:Int) (a2:Int):Int:=(bif (!(D.zaz a0)) then (-1) else (D.zbj a0 a1 (IntKind.i64.wrap (a2.tmod (IntKind.u64.wrap a0.buckets)))))
theorem zg8 (w0:World) 
    (a0:Plan) (a1:Int) (a2:Int) :
    Calls ar 44 #[aq (zpg a0),.int .i64 a1,.int .u64 a2] w0 (zpx (.int .i64 (D.zbD a0 a1 a2)) w0):=by
 refine kN Tryz.func44 rfl 19 rfl rfl fun fr r hB=>?_;refine wsr ?_
 refine kX 23 (aq (zpg a0)) r rfl rfl fun b1 w2 n3 r=>?_;obtain ⟨E1,Z2,H1,hB,zB⟩:=n3.all hB
 refine kA (I 0) r rfl rfl fun r=>wn (aa (wsr (kG (zpg a0) 6 r rfl H1 ta23 rfl rfl fun r=>?_)));refine kE r (zcI w2 a0) rfl cl91 rfl fun w4 hb r=>?_
 have Z4:=hb.size;have H1:=keep hb H1;obtain ⟨hB,zB⟩:=bon hb hB;refine za0 (.bool (!(D.zaz a0))) r (fun R=>y_un r (u:=(.bool (D.zaz a0))) rfl rfl) rfl fun fr r=>wn ?_;refine ae (t:=(!(D.zaz a0))) (r.ev rfl) (fun h5=>?_) (fun h5=>?_)
 ·
  refine wsr (kA (I (-1)) r rfl rfl fun r=>wn (ac ?_));have hd:D.zbD a0 a1 a2=(-1):=(zao h5).trans (rfl)
  refine zaH r rfl rfl ?_;rw [hd];exact ⟨rfl,hB⟩
 refine ag (aa ?_);refine zaB 9 [.val (aq (zpg a0)),.val (I a1),.val (U a2),.val (.pointer (some ⟨b1,4,none⟩)),.val (I a0.buckets),.val (U (V a0.buckets)),.val (U (a2.tmod (V a0.buckets))),.val (I (W (a2.tmod (V a0.buckets)))),.val (I (D.zbj a0 a1 (W (a2.tmod (V a0.buckets)))))] mixed r kz (kV (kV (kV (kV (kV (kV (kV (kV (kV zat))))))))) ?_ ?_
 ·
  refine ec r (fun _ u _ b d s=>zac s (cs:=(zpg a0)) (n:=6) rfl (keep b H1) ta23 rfl bz) (ec r (fun _ u _ b d s=>zar s rfl bz) (ec r (fun _ u _ b d s=>zar s rfl bz) (ec r (fun _ u _ b d s=>za3 s (b:=b1) (o:=0) rfl zmq bz) (ec r (fun _ u _ b d s=>za4 s d.1 (keep b H1) to3 rfl bz) (ec r (fun _ u _ b d s=>zb9 s (n:=a0.buckets) d.1 ti3 ti34 bz) (ec r (fun _ u _ b d s=>zpG s d.1 d.2.1 rfl (zoz (by first | assumption | decide | (have hq:=zf7.1 (by simpa using ‹(!D.zaz _)=false›); have hq1:=hq.b1; have hq2:=hq.b2; unfold V; rw [zbk kw kw]; omega))) bz) (ec r (fun _ u _ b d s=>zb9 s (n:=(a2.tmod (V a0.buckets))) d.1 ti34 ti3 bz) (ec r (fun fr1 u w' hb' hd r'=>zaF r' (args:=[(aq (zpg a0)),(I a1),(I (W (a2.tmod (V a0.buckets))))]) (lc hd.1 (lc hd.2.1 (lc hd.2.2.1 l0))) cl36 ((zgi _ a0 a1 (W (a2.tmod (V a0.buckets)))).mono yab)) ?_))))))));exact zaO
 intro fr u w6 hb hΦ hne r;have r:=r.congr (sc (hΦ 8 ke) (sc (hΦ 7 ke) (sc (hΦ 6 ke) (sc (hΦ 5 ke) (sc (hΦ 4 ke) (sc (hΦ 3 ke) (sc (hΦ 2 ke) (sc (hΦ 1 ke) (sc (hΦ 0 ke) rfl)))))))));have Z6:=hb.size;have H1:=keep hb H1;obtain ⟨hB,zB⟩:=bon hb hB;refine kA (I (D.zbj a0 a1 (W (a2.tmod (V a0.buckets))))) r rfl rfl fun r=>wn (ac ?_);have hd:D.zbD a0 a1 a2=(D.zbj a0 a1 (W (a2.tmod (V a0.buckets)))):=(zaq h5).trans (rfl)
 refine zaH r rfl rfl ?_;rw [hd];exact ⟨rfl,hB⟩
section
variable {n : Nat} {F : Nat → Prop} {j : Nat} {w0 : World}
theorem cl44:zpf ar 44:=kz
def D.zfm (j:Nat) (a0:Seat) (a1:Int) (a2:Int) (a3:Int):T Res:=(D.zhj j a0 (D.zbD a0.p a1 a2) a2 a3)
theorem zjw (hF:kH F w0) (hj:n<j)
    (a0:Seat) (a1:Int) (a2:Int) (a3:Int) :
    Calls ar 90 #[aq (zpJ a0),.int .i64 a1,.int .u64 a2,.int .u64 a3] w0 (zpj ar zpn n (D.zfm j a0 a1 a2 a3) F w0):=by
 refine kN Tryz.func90 rfl 18 rfl rfl fun fr r hB=>?_;refine wsr ?_
 refine kX 47 (aq (zpJ a0)) r rfl rfl fun b1 w2 n3 r=>?_;obtain ⟨E1,Z2,H1,hB,zB⟩:=n3.all hB
 refine za7 (.cells (kq zpn) 41 (0,0)) r (fun R=>za6 tz41) rfl fun fr b4 w5 n6 r=>?_;have H1:=keep n6.below H1
 obtain ⟨E4,Z5,H4,hB,zB⟩:=n6.all hB;refine wn (aa ?_);refine zaB 8 [.val (aq (zpJ a0)),.val (zp b1),.val (aq (zpg a0.p)),.val (I a1),.val (U a2),.val (I (D.zbD a0.p a1 a2)),.val (U a2),.val (U a3)] mixed r kz (kV (kV (kV (kV (kV (kV (kV (kV zat)))))))) ?_ ?_
 ·
  refine ec r (fun _ u _ b d s=>zac s (cs:=(zpJ a0)) (n:=8) rfl (keep b H1) ta47 rfl bz) (ec r (fun _ u _ b d s=>za3 s (b:=b1) (o:=0) rfl zdP bz) (ec r (fun _ u _ b d s=>zac s (cs:=(zpg a0.p)) (n:=6) d.1 (keep b H1) ta23 rfl bz) (ec r (fun _ u _ b d s=>zar s rfl bz) (ec r (fun _ u _ b d s=>zar s rfl bz) (ec r (fun fr1 u w' hb' hd r'=>zaF r' (args:=[(aq (zpg a0.p)),(I a1),(U a2)]) (lc hd.1 (lc hd.2.1 (lc hd.2.2.1 l0))) cl44 ((zg8 _ a0.p a1 a2).mono yab)) (ec r (fun _ u _ b d s=>zar s rfl bz) (ec r (fun _ u _ b d s=>zar s rfl bz) ?_)))))));exact zaO
 intro fr u w7 hb hΦ hne r;have r:=r.congr (sc (hΦ 7 ke) (sc (hΦ 6 ke) (sc (hΦ 5 ke) (sc (hΦ 4 ke) (sc (hΦ 3 ke) (sc (hΦ 2 ke) (sc (hΦ 1 ke) (sc (hΦ 0 ke) rfl))))))));have Z7:=hb.size;have H1:=keep hb H1;have H4:=keep hb H4;obtain ⟨hB,zB⟩:=bon hb hB;refine kJ r (zlJ (j:=j) (F:=No) (n:=n) (fun _ h=>h.elim) kw a0 (D.zbD a0.p a1 a2) a2 a3) rfl cl82 rfl fun w8 v9 hb hr10 r=>?_;have hb:=hb.below
 have Z8:=hb.size;have H1:=keep hb H1;have H4:=keep hb H4;obtain ⟨hB,zB⟩:=bon hb hB;refine kP r hr10.shape rfl rfl H4 ts41 rfl rfl fun w11 u12 r=>?_;have Z11:=u12.size
 have H1:=u12.keep H1 kw
 have H4:=u12.at_;obtain ⟨hB,zB⟩:=u12.on hB kw
 refine wn (ac ?_);have hs:=hr10.shape.cells;refine za5 r rfl rfl H4 (k:=8) hs.1 ta41 ?_;rw [←hs.2.2];exact zpj.fin (Chg.zpv hB) hr10 u12 (fun _ h=>h.elim) (fun h=>h) kw kw kw
def D.zjg (j:Nat) (a0:Seat) (a1:Int) (a2:Int):T Res:=(D.ze7 j j a0 (D.zbD a0.p a1 a2) a2)
theorem zlK (hF:kH F w0) (hj:n<j)
    (a0:Seat) (a1:Int) (a2:Int) :
    Calls ar 96 #[aq (zpJ a0),.int .i64 a1,.int .u64 a2] w0 (zpj ar zpn n (D.zjg j a0 a1 a2) F w0):=by
 refine kN Tryz.func96 rfl 15 rfl rfl fun fr r hB=>?_;refine wsr ?_
 refine kX 47 (aq (zpJ a0)) r rfl rfl fun b1 w2 n3 r=>?_;obtain ⟨E1,Z2,H1,hB,zB⟩:=n3.all hB
 refine za7 (.cells (kq zpn) 41 (0,0)) r (fun R=>za6 tz41) rfl fun fr b4 w5 n6 r=>?_;have H1:=keep n6.below H1
 obtain ⟨E4,Z5,H4,hB,zB⟩:=n6.all hB;refine wn (aa ?_);refine zaB 7 [.val (aq (zpJ a0)),.val (zp b1),.val (aq (zpg a0.p)),.val (I a1),.val (U a2),.val (I (D.zbD a0.p a1 a2)),.val (U a2)] mixed r kz (kV (kV (kV (kV (kV (kV (kV zat))))))) ?_ ?_
 ·
  refine ec r (fun _ u _ b d s=>zac s (cs:=(zpJ a0)) (n:=8) rfl (keep b H1) ta47 rfl bz) (ec r (fun _ u _ b d s=>za3 s (b:=b1) (o:=0) rfl zdP bz) (ec r (fun _ u _ b d s=>zac s (cs:=(zpg a0.p)) (n:=6) d.1 (keep b H1) ta23 rfl bz) (ec r (fun _ u _ b d s=>zar s rfl bz) (ec r (fun _ u _ b d s=>zar s rfl bz) (ec r (fun fr1 u w' hb' hd r'=>zaF r' (args:=[(aq (zpg a0.p)),(I a1),(U a2)]) (lc hd.1 (lc hd.2.1 (lc hd.2.2.1 l0))) cl44 ((zg8 _ a0.p a1 a2).mono yab)) (ec r (fun _ u _ b d s=>zar s rfl bz) ?_))))));exact zaO
 intro fr u w7 hb hΦ hne r;have r:=r.congr (sc (hΦ 6 ke) (sc (hΦ 5 ke) (sc (hΦ 4 ke) (sc (hΦ 3 ke) (sc (hΦ 2 ke) (sc (hΦ 1 ke) (sc (hΦ 0 ke) rfl)))))));have Z7:=hb.size;have H1:=keep hb H1;have H4:=keep hb H4;obtain ⟨hB,zB⟩:=bon hb hB;refine kJ r ((zlW (j:=j) (k:=j) (n:=n) kw kw) (No) _ (fun _ h=>h.elim) a0 (D.zbD a0.p a1 a2) a2) rfl cl86 rfl fun w8 v9 hb hr10 r=>?_;have hb:=hb.below
 have Z8:=hb.size;have H1:=keep hb H1;have H4:=keep hb H4;obtain ⟨hB,zB⟩:=bon hb hB;refine kP r hr10.shape rfl rfl H4 ts41 rfl rfl fun w11 u12 r=>?_;have Z11:=u12.size
 have H1:=u12.keep H1 kw
 have H4:=u12.at_;obtain ⟨hB,zB⟩:=u12.on hB kw
 refine wn (ac ?_);have hs:=hr10.shape.cells;refine za5 r rfl rfl H4 (k:=8) hs.1 ta41 ?_;rw [←hs.2.2];exact zpj.fin (Chg.zpv hB) hr10 u12 (fun _ h=>h.elim) (fun h=>h) kw kw kw
def D.zjl (j:Nat) (a0:Seat) (a1:Int) (a2:Int):T Res:=(D.zfZ j a0 (D.zbD a0.p a1 a2) a2)
theorem zlU (hF:kH F w0) (hj:n<j)
    (a0:Seat) (a1:Int) (a2:Int) :
    Calls ar 97 #[aq (zpJ a0),.int .i64 a1,.int .u64 a2] w0 (zpj ar zpn n (D.zjl j a0 a1 a2) F w0):=by
 refine kN Tryz.func97 rfl 15 rfl rfl fun fr r hB=>?_;refine wsr ?_
 refine kX 47 (aq (zpJ a0)) r rfl rfl fun b1 w2 n3 r=>?_;obtain ⟨E1,Z2,H1,hB,zB⟩:=n3.all hB
 refine za7 (.cells (kq zpn) 41 (0,0)) r (fun R=>za6 tz41) rfl fun fr b4 w5 n6 r=>?_;have H1:=keep n6.below H1
 obtain ⟨E4,Z5,H4,hB,zB⟩:=n6.all hB;refine wn (aa ?_);refine zaB 7 [.val (aq (zpJ a0)),.val (zp b1),.val (aq (zpg a0.p)),.val (I a1),.val (U a2),.val (I (D.zbD a0.p a1 a2)),.val (U a2)] mixed r kz (kV (kV (kV (kV (kV (kV (kV zat))))))) ?_ ?_
 ·
  refine ec r (fun _ u _ b d s=>zac s (cs:=(zpJ a0)) (n:=8) rfl (keep b H1) ta47 rfl bz) (ec r (fun _ u _ b d s=>za3 s (b:=b1) (o:=0) rfl zdP bz) (ec r (fun _ u _ b d s=>zac s (cs:=(zpg a0.p)) (n:=6) d.1 (keep b H1) ta23 rfl bz) (ec r (fun _ u _ b d s=>zar s rfl bz) (ec r (fun _ u _ b d s=>zar s rfl bz) (ec r (fun fr1 u w' hb' hd r'=>zaF r' (args:=[(aq (zpg a0.p)),(I a1),(U a2)]) (lc hd.1 (lc hd.2.1 (lc hd.2.2.1 l0))) cl44 ((zg8 _ a0.p a1 a2).mono yab)) (ec r (fun _ u _ b d s=>zar s rfl bz) ?_))))));exact zaO
 intro fr u w7 hb hΦ hne r;have r:=r.congr (sc (hΦ 6 ke) (sc (hΦ 5 ke) (sc (hΦ 4 ke) (sc (hΦ 3 ke) (sc (hΦ 2 ke) (sc (hΦ 1 ke) (sc (hΦ 0 ke) rfl)))))));have Z7:=hb.size;have H1:=keep hb H1;have H4:=keep hb H4;obtain ⟨hB,zB⟩:=bon hb hB;refine kJ r (zm4 (j:=j) (F:=No) (n:=n) (fun _ h=>h.elim) kw a0 (D.zbD a0.p a1 a2) a2) rfl cl87 rfl fun w8 v9 hb hr10 r=>?_;have hb:=hb.below
 have Z8:=hb.size;have H1:=keep hb H1;have H4:=keep hb H4;obtain ⟨hB,zB⟩:=bon hb hB;refine kP r hr10.shape rfl rfl H4 ts41 rfl rfl fun w11 u12 r=>?_;have Z11:=u12.size
 have H1:=u12.keep H1 kw
 have H4:=u12.at_;obtain ⟨hB,zB⟩:=u12.on hB kw
 refine wn (ac ?_);have hs:=hr10.shape.cells;refine za5 r rfl rfl H4 (k:=8) hs.1 ta41 ?_;rw [←hs.2.2];exact zpj.fin (Chg.zpv hB) hr10 u12 (fun _ h=>h.elim) (fun h=>h) kw kw kw
end
end Go.Proofs.YtbbipmelhmgmfaaGreat

/- Ours. -/
namespace Go.Proofs.YtbbipmelhmgmfaaGreat
open Go.Shelf
def znB:Go.Shelf.Ren:=⟨fun | 6=>93 | 15=>168 | 14=>167 | 28=>263 | 29=>264 | 20=>255 | 21=>256 | 22=>257 | 23=>258 | 24=>259 | 25=>260 | 26=>261 | 27=>262 | 46=>323 | 47=>324 | 48=>325 | 49=>326 | 50=>327 | 57=>369 | n=>n,fun | 22=>82 | 24=>104 | 25=>170 | 3=>3 | 39=>217 | 0=>0 | 53=>282 | 55=>34 | 4=>4 | 46=>276 | 45=>275 | 50=>186 | 5=>5 | 9=>9 | 66=>307 | 70=>310 | 76=>327 | 77=>328 | n=>n,fun | n=>n⟩
theorem sortL:Go.Proofs.SlLaysF0.n6 Tryz.prog znB:={
 mixed:=kz
 f6:=⟨Tryz.f93.name,ke,Tryz.func93.trans (congrArg some kz)⟩
 f14:=⟨Tryz.f167.name,ke,Tryz.func167.trans (congrArg some kz)⟩
 f15:=Tryz.func168.trans (congrArg some kz)
 f20:=⟨Tryz.f255.name,ke,Tryz.func255.trans (congrArg some kz)⟩
 f21:=⟨Tryz.f256.name,ke,Tryz.func256.trans (congrArg some kz)⟩
 f22:=⟨Tryz.f257.name,ke,Tryz.func257.trans (congrArg some kz)⟩
 f23:=⟨Tryz.f258.name,ke,Tryz.func258.trans (congrArg some kz)⟩
 f24:=⟨Tryz.f259.name,ke,Tryz.func259.trans (congrArg some kz)⟩
 f25:=⟨Tryz.f260.name,ke,Tryz.func260.trans (congrArg some kz)⟩
 f26:=⟨Tryz.f261.name,ke,Tryz.func261.trans (congrArg some kz)⟩
 f27:=⟨Tryz.f262.name,ke,Tryz.func262.trans (congrArg some kz)⟩
 f28:=Tryz.func263.trans (congrArg some kz)
 f29:=Tryz.func264.trans (congrArg some kz)
 f46:=⟨Tryz.f323.name,ke,Tryz.func323.trans (congrArg some kz)⟩
 f47:=Tryz.func324.trans (congrArg some kz)
 f48:=Tryz.func325.trans (congrArg some kz)
 f49:=⟨Tryz.f326.name,ke,Tryz.func326.trans (congrArg some kz)⟩
 f50:=⟨Tryz.f327.name,ke,Tryz.func327.trans (congrArg some kz)⟩
 f57:=⟨Tryz.f369.name,ke,Tryz.func369.trans (congrArg some kz)⟩
 t0:=Tryz.underlying0
 a0:=Tryz.isAgg0
 z0:=Tryz.sizeOf0
 v0:=Tryz.zeroValue0
 t3:=Tryz.underlying3
 a3:=Tryz.isAgg3
 z3:=Tryz.sizeOf3
 v3:=Tryz.zeroValue3
 t4:=Tryz.underlying4
 a4:=Tryz.isAgg4
 z4:=Tryz.sizeOf4
 v4:=Tryz.zeroValue4
 t5:=Tryz.underlying5
 a5:=Tryz.isAgg5
 z5:=Tryz.sizeOf5
 v5:=Tryz.zeroValue5
 t9:=Tryz.underlying9
 a9:=Tryz.isAgg9
 z9:=Tryz.sizeOf9
 v9:=Tryz.zeroValue9
 t22:=Tryz.underlying82
 a22:=Tryz.isAgg82
 z22:=Tryz.sizeOf82
 v22:=Tryz.zeroValue82
 t25:=Tryz.underlying170
 a25:=Tryz.isAgg170
 z25:=Tryz.sizeOf170
 v25:=Tryz.zeroValue170
 t39:=Tryz.underlying217
 a39:=Tryz.isAgg217
 z39:=Tryz.sizeOf217
 v39:=Tryz.zeroValue217
 t45:=Tryz.underlying275
 a45:=Tryz.isAgg275
 z45:=Tryz.sizeOf275
 v45:=Tryz.zeroValue275
 t46:=Tryz.underlying276
 a46:=Tryz.isAgg276
 z46:=Tryz.sizeOf276
 v46:=Tryz.zeroValue276
 t50:=Tryz.underlying186
 a50:=Tryz.isAgg186
 z50:=Tryz.sizeOf186
 v50:=Tryz.zeroValue186
 t53:=Tryz.underlying282
 a53:=Tryz.isAgg282
 z53:=Tryz.sizeOf282
 v53:=Tryz.zeroValue282
 t55:=Tryz.underlying34
 a55:=Tryz.isAgg34
 z55:=Tryz.sizeOf34
 v55:=Tryz.zeroValue34
 t66:=Tryz.underlying307
 a66:=Tryz.isAgg307
 z66:=Tryz.sizeOf307
 v66:=Tryz.zeroValue307
 t70:=Tryz.underlying310
 a70:=Tryz.isAgg310
 z70:=Tryz.sizeOf310
 v70:=Tryz.zeroValue310
 t76:=Tryz.underlying327
 a76:=Tryz.isAgg327
 z76:=Tryz.sizeOf327
 v76:=Tryz.zeroValue327
 t77:=Tryz.underlying328
 a77:=Tryz.isAgg328
 z77:=Tryz.sizeOf328
 v77:=Tryz.zeroValue328 }
end Go.Proofs.YtbbipmelhmgmfaaGreat

/- Ours. -/
namespace Go.Proofs.YtbbipmelhmgmfaaGreat
open Go.RowKit Go.Shelf Go.Lib
open Go.Sort (flatK get_flatK size_flatK HoldsK)
instance:Inhabited Entry:=⟨⟨0,0⟩⟩
def cfE (x y:Entry):Int:=if x.key<y.key then -1 else if x.key > y.key then 1 else 0
theorem nanE (x:Int) (w:World):Calls Tryz.prog 169 #[.int .u64 x] w fun e w'=>e=.returned (.bool false)∧w'=w:=by
 go_enter Tryz.func169,Tryz.ntmps169
 go_wp2
 go_ret
 exact ⟨by simp,rfl⟩
theorem cmpE (x y:Int) (w:World):Calls Tryz.prog 95 #[.int .u64 x,.int .u64 y] w fun e w'=>e=.returned (.int .i64 (if x<y then -1 else if x > y then 1 else 0))∧w'=w:=by
 go_enter Tryz.func95,Tryz.ntmps95
 go_wp2_with (go_at_call 169; refine (nanE _ _).mono ?_; rintro e w' ⟨rfl,hw⟩; rw [hw])
 all_goals (go_ret; refine ⟨?_,rfl⟩; (repeat' split) <;> first | rfl | (exfalso; omega))
theorem closeE (x y:Entry) (W:World):Calls Tryz.prog 94 #[.agg #[.int .u64 x.key,.int .u64 x.value],.agg #[.int .u64 y.key,.int .u64 y.value]] W fun e w'=>e=.returned (.int .i64 (cfE x y))∧∃ q os',w'=Go.Sort.grow (W.drewN q) os':=by
 have hcon:=fun W'=>cmpE x.key y.key W'
 change ∀ W',Calls Tryz.prog 95 _ _ (fun e w'=>e=.returned (.int .i64 (cfE x y))∧w'=W') at hcon
 generalize cfE x y=r at hcon ⊢
 go_enter Tryz.func94,Tryz.ntmps94
 go_wp2_with (go_at_call 95; refine (hcon _).mono ?_; rintro e w' ⟨rfl,rfl⟩)
 go_ret
 exact ⟨rfl,0,_,by rw [Go.Sort.alloc_eq_grow,Go.Sort.alloc_eq_grow,Go.Sort.grow_grow]; rfl⟩
/-! ### What the row holds: sorted, where no two keys are one -/
def insK (e:Entry):List Entry→List Entry
 | []=>[e]
 | x::l=>if e.key<x.key then e::x::l else x::insK e l
def sortK:List Entry→List Entry
 | []=>[]
 | x::l=>insK x (sortK l)
def sortD (l:List Entry):Option (List Entry):=if l.length≤2147483648∧(l.map Entry.key).Nodup then some (sortK l) else none
theorem zjZ (e:Entry):∀ l,(insK e l).Perm (e::l)
 | []=>.refl _
 | x::l=>by
  unfold insK
  split
  ·exact .refl _
  ·exact (List.Perm.cons x (zjZ e l)).trans (List.Perm.swap _ _ _)
theorem zhh:∀ l,(sortK l).Perm l
 | []=>.refl _
 | x::l=>(zjZ x _).trans (.cons x (zhh l))
theorem zjK (e:Entry):∀ l,l.Pairwise (fun a b=>a.key≤b.key)→(insK e l).Pairwise fun a b=>a.key≤b.key
 | [],_=>List.pairwise_singleton _ _
 | x::l,h=>by
  obtain ⟨h1,h2⟩:=List.pairwise_cons.1 h;unfold insK
  split
  ·rename_i hlt
   refine List.pairwise_cons.2 ⟨fun y hy=>?_,h⟩
   rcases List.mem_cons.1 hy with rfl | hy
   ·omega
   ·have:=h1 y hy; omega
  ·rename_i hlt
   refine List.pairwise_cons.2 ⟨fun y hy=>?_,zjK e l h2⟩
   rcases List.mem_cons.1 ((zjZ e l).mem_iff.1 hy) with rfl | hy
   ·omega
   ·exact h1 y hy
theorem zgT:∀ l,(sortK l).Pairwise fun a b=>a.key≤b.key
 | []=>.nil
 | x::l=>zjK x _ (zgT l)
theorem znA:∀ {l:List Entry},(l.map Entry.key).Nodup→∀ {a b:Entry},a∈l→b∈l→a.key=b.key→a=b
 | x::l,h,a,b,ha,hb,e=>by
  rw [List.map_cons,List.nodup_cons] at h
  rcases List.mem_cons.1 ha with ha | ha
  ·rcases List.mem_cons.1 hb with hb | hb
   ·rw [ha,hb]
   ·exact absurd (List.mem_map.2 ⟨b,hb,by rw [←e,ha]⟩) h.1
  ·rcases List.mem_cons.1 hb with hb | hb
   ·exact absurd (List.mem_map.2 ⟨a,ha,by rw [e,hb]⟩) h.1
   ·exact znA h.2 ha hb e
theorem zjm {l zs ys:List Entry} (h:sortD l=some zs) (hp:ys.Perm l) (hs:ys.Pairwise fun a b=>a.key≤b.key):ys=zs∧l.length≤2147483648:=by
 unfold sortD at h
 split at h
 ·rename_i h1
  obtain rfl:=Option.some.inj h;refine ⟨List.Perm.eq_of_pairwise (fun a b ha hb h2 h3=>?_) hs (zgT l) (hp.trans (zhh l).symm),h1.1⟩
  exact znA h1.2 (hp.mem_iff.1 ha) ((zhh l).mem_iff.1 hb) kw
 ·cases h
theorem ltE (x y:Entry):ltOf cfE x y=decide (x.key<y.key):=by
 unfold ltOf cfE
 by_cases h1:x.key<y.key
 ·simp [h1]
 ·by_cases h2:x.key > y.key <;> simp [h1,h2]
theorem swoE:Go.Sort.SWO (ltOf cfE) where
 irrefl x:=by rw [ltE]; simp
 trans x y z h1 h2:=by rw [ltE] at *; simp at *; omega
 ntrans x y z h1 h2:=by rw [ltE] at *; simp at *; omega
theorem zmg {l:List Entry} {j:Nat} (hj:j<l.length * 2):(l.flatMap zpw)[j]?=some ((flatK zpw 2 l.toArray)[j]!):=by
 have h1:j / 2<l.length:=kw
 rw [get_flatK _ _ _ _ (by simpa using hj)]
 have h2:(zpw l[j / 2])[j % 2]?=some (zpw l[j / 2])[j % 2]!:=by
  have h3:j % 2<(zpw l[j / 2]).length:=Nat.mod_lt _ kw
  rw [getElem!_pos (zpw l[j / 2]) (j % 2) h3,List.getElem?_eq_getElem h3]
 have h4:=zhb (f:=zpw) (sz:=2) (fun _=>rfl) l (j / 2) h1 (j % 2) _ h2
 rw [show j / 2 * 2+j % 2=j from by omega] at h4
 rw [h4]
 congr 3
 rw [getElem!_pos _ _ (by simpa using h1)]
 simp
theorem eg94:∀ args w,(callFunc 94 args).run Tryz.prog w=.ok (.enter 94 args) w:=enters_of Tryz.func94 kz rfl
theorem zpc {v:Value} {xs zs:List Entry} {w:World} (hr:RowAt 104 2 zpw v xs w) (hz:sortD xs=some zs) :
  Calls Tryz.prog 93 #[v,.func (.func 94) #[] #[]] w fun e w'=>e=.returned (.tuple #[])∧Appended 104 2 zpw v zs w v w':=by
 rcases hr with ⟨ad,rfl,rfl⟩ | ⟨g,o,cap,cur,rfl,h2,h3,h4,h5,h6⟩
 ·obtain ⟨rfl,_⟩:=zjm hz (ys:=[]) (.refl _) .nil
  refine (AnyF.slices_SortFunc_none sortL ad 0 _ w).mono ?_;rintro e w' ⟨rfl,rfl⟩;exact ⟨rfl,.inl ⟨ad,rfl,rfl⟩,Chg.refl _ _,fun b hb=>.inl hb⟩
 ·have hlen:xs.length≤2147483648:=(zjm hz (zhh xs) (zgT xs)).2
  have hcur:∀ j,j<xs.length * 2→cur[o+j]?=(xs.flatMap zpw)[j]?:=fun j hj=>by
   rw [←h5,List.getElem?_take,if_pos hj,List.getElem?_drop,Array.getElem?_toList]
  have hH:HoldsK zpw 2 w g o xs.toArray:=fun j hj=>by
   have hj':j<xs.length * 2:=by rw [size_flatK] at hj; simpa using hj
   refine ⟨?_,?_⟩
   ·simp only [World.cell?,h3]
    rw [hcur j hj',zmg hj']
    rfl
   ·simp only [World.frozen?,h3]
    simp
  have hb:g<w.heap.size:=ah h3;have hc:=AnyQ.slices_SortFunc sortL 2 Tryz.isAgg104 Tryz.sizeOf104 zpw (fun _=>rfl) (fun x v hv=>by simp [zpw] at hv; rcases hv with rfl | rfl <;> rfl) cfE swoE 94 #[] g o cap xs.toArray w eg94 (fun _ _ _ _ x y=>closeE x y _) hH hb yaD
  change Calls Tryz.prog 93 _ _ _ at hc
  refine hc.mono ?_;rintro e w' ⟨rfl,d,n,os,hp,hs,rfl⟩;have hds:d.size=xs.length:=by have:=hp.1; simpa using this
  have hperm:d.toList.Perm xs:=by
   have:=hp.2.2;rw [Array.extract_eq_self_of_le yaD,Array.extract_eq_self_of_le yat] at this
   simpa using this
  have hsort:d.toList.Pairwise fun a b=>a.key≤b.key:=by
   rw [List.pairwise_iff_getElem]
   intro i j hi hj hij;simp only [Array.length_toList] at hi hj
   have:=hs i j (Nat.zero_le _) hij yaD
   rw [ltE,getElem!_pos d j hj,getElem!_pos d i hi] at this
   simp only [Array.getElem_toList]
   simpa using this
  obtain ⟨rfl,_⟩:=zjm hz hperm hsort;refine ⟨rfl,?_,?_,fun b hb=>.inl hb⟩
  ·refine .inr ⟨g,o,cap,Go.Sort.putCells id o (flatK zpw 2 d) cur,by simp [hds],by rw [Array.length_toList,hds]; exact h2,?_,?_,?_,h6⟩
   ·show ((w.heap.modify g _)++os)[g]?=_
    rw [Array.getElem?_append_left (by simpa using hb),Array.getElem?_modify,if_pos rfl,h3]
    rfl
   ·simpa [Go.Sort.putCells] using h4
   ·have hzl:d.toList.length=xs.length:=by rw [Array.length_toList,hds]
    have hle:xs.length * 2≤cap * 2:=Nat.mul_le_mul_right 2 h2;refine List.ext_getElem? fun j=>?_;rw [List.getElem?_take]
    split
    ·rename_i hj
     rw [zmg hj,List.getElem?_drop,Array.getElem?_toList]
     have hj2:o+j<cur.size:=kw
     simp only [Go.Sort.putCells,Array.getElem?_mapIdx,Array.getElem?_eq_getElem hj2,Option.map_some,size_flatK]
     rw [if_pos ⟨kw,kw⟩,show o+j - o=j from by omega]
     rfl
    ·rename_i hj
     symm
     rw [List.getElem?_eq_none_iff,zcQ (f:=zpw) (sz:=2) (fun _=>rfl)]
     omega
  ·refine ⟨rfl,rfl,rfl,?_,fun b hb hn=>?_⟩
   ·show w.heap.size≤((w.heap.modify g _)++os).size
    simp
   ·show ((w.heap.modify g _)++os)[b]?=_
    rw [Array.getElem?_append_left (by simpa using hb),Array.getElem?_modify,if_neg (fun e=>hn (by subst e; exact zjq (a:=⟨g,o,none⟩) h6))]
theorem cl93:zpf ar 93:=kz
def D.zcc (fu:Nat) (a0:Plan) (a1:Mem) (a2:Int) (a3:Int):Option (List Entry):=(loopThen (fun (x6:List Entry × Int)=>(bif (decide (x6.2<a0.buckets)) then ((D.zex fu a0 a1 a2 (D.zbj a0 a3 x6.2)).bind (fun (x11:List Entry)=>((appD x6.1 x11).bind (fun (x15:List Entry)=>(some (Lp.next (x15,(IntKind.i64.wrap (x6.2+1))))))))) else (some (Lp.brk (x6.1,x6.2))))) fu ([],0) (fun (x19:List Entry × Int)=>((sortD x19.1).bind (fun (x22:List Entry)=>(some x22)))))
theorem zft {fu:Nat} (w0:World) (a0:Plan) {a1g:MG} (a1:Mem) (a1h:MemAt a1g a1 w0) (a2:Int) (a3:Int) {res:List Entry} (hD:D.zcc fu a0 a1 a2 a3=some res) :
    Calls ar 47 #[aq (zpg a0),zp a1g.mb,.int .i64 a2,.int .i64 a3] w0 (fun e w'=>∃ (v0:Value),e=.returned v0∧Done No No [rowK 104 2 zpw v0 res] w0 w'):=by
 refine enter Tryz.func47 rfl 30 rfl rfl fun fr r=>?_;have hP:Post No [] w0 w0:=Post.nil w0
 have hP:Post No [memR a1g a1] w0 w0:=hP.addRo zcM a1h rfl a1h.lt;unfold D.zcc at hD
 refine wsr ?_;refine kX 23 (aq (zpg a0)) r rfl rfl fun b1 w2 n3 r=>?_;have hP:Post No [_,zpi b1 ((zpg a0)).toArray 23] w0 w2:=hP.new n3
 refine kA kS r rfl rfl fun r=>wn (wsr (kA kS r rfl rfl fun r=>wn (aa (wsr (kF 0 r rfl zmq rfl fun r=>kL (I a0.buckets) r rfl (hP.cell (i:=1) rfl) to3 rfl rfl fun r=>kM (I 0) r rfl rfl fun r=>wn ?_)))));have hP:Post No [_,_,rowK 104 2 zpw kS ([])] w0 w2:=hP.nilRow 104 2 zpw
 refine zdZ (X:=List Entry × Int) (G:=Value) (x0:=([],0)) (fun x γ=>[(0,(aq (zpg a0))),(1,(zp a1g.mb)),(2,(I a2)),(3,(I a3)),(4,(zp b1)),(8,kS),(12,(I a0.buckets)),(9,γ),(13,(I x.2))]) (fun x γ w=>Post No [memR a1g a1,zpi b1 ((zpg a0)).toArray 23,rowK 104 2 zpw γ x.1] w0 w) kS r (kO (kO (zaa rfl zaC))) hP hD ?_ ?_
 ·
  rintro x6 γ7 fr w9 g y8 RPy8 nxy8 bky8 rty8 r hP hD;have hP:Post No [_,_,_] w0 w9:=hP;refine wsr (kB r rfl rfl rfl rfl rfl fun r=>wn (aa ?_));refine ae (t:=(decide (x6.2<a0.buckets))) (r.ev rfl) (fun h10=>?_) (fun h10=>?_)
  ·
   have hD:=(zao h10).symm.trans hD;refine ag (aa (wp_block (wsr (kM (I x6.2) r rfl rfl fun r=>kA (I x6.2) r rfl rfl fun r=>wn ?_))));obtain ⟨x11,hx11,hD⟩:=zaj hD
   refine zmb 9 [.val γ7,.val (aq (zpg a0)),.val (zp a1g.mb),.val (I a2),.val (aq (zpg a0)),.val (I a3),.val (I x6.2),.val (I (D.zbj a0 a3 x6.2)),.pred (MkP (fun v12:Value=>v12) (fun v12:Value=>[rowK 104 2 zpw v12 x11])) (MkP.st _ _)] mixed r kz ?_ ?_
   ·
    refine fc r (fun fr1 g w' hb' hd r'=>zar r' rfl bz) ?_;refine fc r (fun fr1 g w' hb' hd r'=>zac r' (cs:=(zpg a0)) (n:=6) rfl ((hP.below (dr hb')).cell (i:=1) rfl) ta23 rfl bz) ?_
    refine fc r (fun fr1 g w' hb' hd r'=>zar r' rfl bz) ?_;refine fc r (fun fr1 g w' hb' hd r'=>zar r' rfl bz) ?_
    refine fc r (fun fr1 g w' hb' hd r'=>zac r' (cs:=(zpg a0)) (n:=6) rfl ((hP.below (dr hb')).cell (i:=1) rfl) ta23 rfl bz) ?_;refine fc r (fun fr1 g w' hb' hd r'=>zar r' rfl bz) ?_
    refine fc r (fun fr1 g w' hb' hd r'=>zar r' rfl bz) ?_;refine fc r (fun fr1 g w' hb' hd r'=>zaF r' (args:=[(aq (zpg a0)),(I a3),(I x6.2)]) (lc (hd 4 rfl).1 (lc (hd 5 rfl).1 (lc (hd 6 rfl).1 l0))) cl36 ((zgi _ a0 a3 x6.2).mono yab)) ?_
    refine fc r (fun fr1 g w' hb' hd r'=>zaF r' (args:=[(aq (zpg a0)),(zp a1g.mb),(I a2),(I (D.zbj a0 a3 x6.2))]) (lc (hd 1 rfl).1 (lc (hd 2 rfl).1 (lc (hd 3 rfl).1 (lc (hd 7 rfl).1 l0)))) cl42 ((zk6 _ a0 a1 ((hP.below (dr hb')).memr (i:=0) rfl) a2 (D.zbj a0 a3 x6.2) hx11).mono yaA)) ?_;exact zb4
   intro fr gg w14 hb hΦ hap r;obtain ⟨v12,g8,hs8⟩:=(hΦ 8 rfl).1;have r:=r.congr (sc g8 (sc ((hΦ 7 rfl).1) (sc ((hΦ 6 rfl).1) (sc ((hΦ 5 rfl).1) (sc ((hΦ 4 rfl).1) (sc ((hΦ 3 rfl).1) (sc ((hΦ 2 rfl).1) (sc ((hΦ 1 rfl).1) (sc ((hΦ 0 rfl).1) rfl)))))))));have hP:Post No [_,_,_,rowK 104 2 zpw v12 x11] w0 w14:=hP.addL (l:=[([rowK 104 2 zpw v12 x11],(gg 8).lo,(gg 8).hi)]) hb ⟨hs8,(hΦ 8 rfl).2.1,zeM,trivial⟩;obtain ⟨x15,hx15,hD⟩:=zaj hD;refine zm3 104 2 zpw γ7 r (fun R=>zkK r rt82 (fun _=>rfl) (fun _=>rfl) (hP.row (i:=2) rfl) (hP.row (i:=3) rfl).ro hx15 rfl rfl) rfl fun fr v16 w17 ha18 r=>?_;have hP:Post No [_,_,rowK 104 2 zpw v16 x15,_] w0 w17:=hP.append (i:=2) rfl ha18
   refine kA v16 r rfl rfl fun r=>wn ?_;refine af (kB r rfl rfl rfl rfl rfl fun r=>kM (I (W (x6.2+1))) r rfl rfl fun r=>wn ?_)
   exact nxy8 (x15,(W (x6.2+1))) v16 _ _ _ hD r (kO (kO (zaa rfl zaC))) (hP.pick [0,1,2] rfl rfl)
  have hD:=(zaq h10).symm.trans hD;refine wp_exit ?_;exact bky8 (x6.1,x6.2) γ7 _ _ _ hD r (kO (kO (zaa rfl zaC))) (hP.pick [0,1,2] rfl rfl)
 rintro x19 γ20 fr w21 g r hP hD;have hP:Post No [_,_,_] w0 w21:=hP;refine wsr (kM γ20 r rfl rfl fun r=>?_);obtain ⟨x22,hx22,hD⟩:=zaj hD
 refine kC r (zpc (hP.row (i:=2) rfl) hx22) rfl cl93 rfl ?_;rintro _ w23 ⟨rfl,ha24⟩;refine ⟨_,rfl,fun fr r=>?_⟩
 have hP:Post No [_,_,rowK 104 2 zpw γ20 x22] w0 w23:=hP.append (i:=2) rfl ha24;refine wn (wsr (kM γ20 r rfl rfl fun r=>kA γ20 r rfl rfl fun r=>wn (ac ?_)));have hv:x22=res:=Option.some.inj hD
 try dsimp only [Exit.then,Exit.inBlock]
 refine zaH (fn:=Tryz.f47) r (t:=8) rfl (v:=γ20) rfl ?_;subst hv;exact ⟨γ20,rfl,(hP.pick [2] rfl rfl).done (zbo rfl zc1)⟩
end Go.Proofs.YtbbipmelhmgmfaaGreat
