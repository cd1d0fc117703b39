/- Some of our texts, one behind the other. -/
import Derived.Test.YtikjpdpgdmbdpaaHwM6
import Derived.Test.YtikjpdpgdmbdpaaHwMems
set_option linter.all false
/- Written by a program of ours (wip/gen.py): programs made, and one behind the other -/
set_option linter.unusedVariables false
set_option maxRecDepth 20000
set_option maxHeartbeats 2000000
namespace Go.Proofs.Ytikjpdpgdmbdpaa
open Go.RowKit
theorem cl58:callable Try.prog 58=true:=by kernel_rfl

theorem cl60:callable Try.prog 60=true:=by kernel_rfl

theorem cl85:callable Try.prog 85=true:=by kernel_rfl

theorem fo70_0:fieldOff Try.prog 70 0 0=true:=by kernel_rfl

theorem fo70_2:fieldOff Try.prog 70 2 1=true:=by kernel_rfl

theorem fo70_3:fieldOff Try.prog 70 3 5=true:=by kernel_rfl

theorem fz70:fieldZ Try.prog 70 1 1=true:=by kernel_rfl

theorem ta36:tyA Try.prog 36 4=true:=by kernel_rfl

theorem ta39:tyA Try.prog 39 7=true:=by kernel_rfl

theorem ta65:tyA Try.prog 65 0=true:=by kernel_rfl

theorem ta70:tyA Try.prog 70 6=true:=by kernel_rfl

theorem ta76:tyA Try.prog 76 7=true:=by kernel_rfl

theorem to122:tyO Try.prog 122=true:=by kernel_rfl

theorem to4:tyO Try.prog 4=true:=by kernel_rfl

theorem to68:tyO Try.prog 68=true:=by kernel_rfl

theorem ts39:sized Try.prog 39 7=true:=by kernel_rfl

theorem ts70:sized Try.prog 70 6=true:=by kernel_rfl

theorem ts76:sized Try.prog 76 7=true:=by kernel_rfl

theorem tz39:zeroOf Try.prog 39=some (.agg (progCells false encWord.zero 0 0 0 0 .nilFunc)):=by kernel_rfl

theorem tz70:zeroOf Try.prog 70=some (.agg (progCells false encNone.zero 0 0 0 0 .nilFunc)):=by kernel_rfl

theorem tz76:zeroOf Try.prog 76=some (.agg (progCells false encBool.zero 0 0 0 0 .nilFunc)):=by kernel_rfl

def D.prog_Do_None (a0:Access) (a1:(Int→T Unit)):T Unit:=(T.act a0.op a0.at_ a0.a a0.b a1)

theorem c_prog_Do_None {n:Nat} {F:Nat→Prop} {w0:World} (hF:∀ b,F b→b<w0.heap.size)
    (a0:Access) {a1_f:FuncId} {a1_1 a1_2:List Value} {a1:(Int→T Unit)} (a1_n:FnT Try.prog encNone u64 (n) F w0 (.func (.func a1_f) a1_1.toArray a1_2.toArray) a1) :
    Calls Try.prog 91 #[.agg (accessC a0).toArray,.func (.func a1_f) a1_1.toArray a1_2.toArray] w0 (RepRes Try.prog encNone n (D.prog_Do_None a0 a1) F w0):=by
 refine enter Try.func91 rfl 8 rfl rfl fun fr r=>?_;have hB:=Below.refl w0.heap.size w0
 refine wsr ?_;refine seq_new (.cells ((accessC a0)).toArray 36 (0,0)) r (fun R=>y_box r (v:=(.agg (accessC a0).toArray)) rfl) rfl fun fr b1 w2 n3 r=>?_;obtain ⟨e_b1,z_w2,h_b1,hB,zB⟩:=n3.all hB
 refine seq_new (.cells (progCells false encNone.zero 0 0 0 0 .nilFunc) 70 (0,0)) r (fun R=>y_alloc tz70) rfl fun fr b4 w5 n6 r=>?_;have h_b1:=keep n6.below h_b1
 obtain ⟨e_b4,z_w5,h_b4,hB,zB⟩:=n6.all hB;refine wn ?_;refine wsr ?_;refine seq_val (.agg (accessC a0).toArray) r (fun R=>y_load_agg r (cs:=(accessC a0)) (n:=4) rfl h_b1 ta36 rfl) rfl fun fr r=>?_;refine seq_val (.func (.func a1_f) a1_1.toArray a1_2.toArray) r (fun R=>y_move r rfl) rfl fun fr r=>?_
 refine seq_val (.agg (progCells false encNone.zero a0.op a0.at_ a0.a a0.b (.func (.func a1_f) a1_1.toArray a1_2.toArray))) r (fun R=>y_build r (by kernel_rfl)) rfl fun fr r=>?_;refine seq_upd (.cells (progCells false encNone.zero a0.op a0.at_ a0.a a0.b (.func (.func a1_f) a1_1.toArray a1_2.toArray)) 70 (0,0)) r (fun R=>y_store r (o:=0) (v:=(.agg (progCells false encNone.zero a0.op a0.at_ a0.a a0.b (.func (.func a1_f) a1_1.toArray a1_2.toArray)))) rfl rfl h_b4 ts70 (Nat.le_of_ble_eq_true rfl) rfl rfl) rfl fun fr w7 u8 r=>?_
 have z_w7:=u8.size;have h_b1:=u8.keep h_b1 (by omega)
 have h_b4:=u8.at_;obtain ⟨hB,zB⟩:=u8.on hB (by omega)
 refine wn ?_;refine wp_ret ?_;refine ret_cell r rfl rfl h_b4 (k:=6) rfl ta70 ?_;exact ⟨_,rfl,hB,Rep.act_of (a1_n.mono (Nat.le_refl _) (fun b hb=>.inl hb) (Same.below hB hF) hB.size)⟩

def D.prog_Done_None :T Unit:=(T.done ())

theorem c_prog_Done_None {n:Nat} {F:Nat→Prop} {w0:World} (hF:∀ b,F b→b<w0.heap.size)
     :
    Calls Try.prog 80 #[.agg #[]] w0 (RepRes Try.prog encNone n D.prog_Done_None F w0):=by
 refine enter Try.func80 rfl 5 rfl rfl fun fr r=>?_;have hB:=Below.refl w0.heap.size w0
 refine wsr ?_;refine seq_new (.cells #[] 65 (0,0)) r (fun R=>y_box r (v:=(.agg #[])) rfl) rfl fun fr b1 w2 n3 r=>?_;obtain ⟨e_b1,z_w2,h_b1,hB,zB⟩:=n3.all hB
 refine seq_new (.cells (progCells false encNone.zero 0 0 0 0 .nilFunc) 70 (0,0)) r (fun R=>y_alloc tz70) rfl fun fr b4 w5 n6 r=>?_;have h_b1:=keep n6.below h_b1
 obtain ⟨e_b4,z_w5,h_b4,hB,zB⟩:=n6.all hB;refine wn ?_;refine wsr ?_;refine seq_val (.agg #[]) r (fun R=>y_load_agg r (cs:=[]) (n:=0) rfl h_b1 ta65 rfl) rfl fun fr r=>?_;refine seq_val (.agg (progCells true (encNone.cells ()) 0 0 0 0 .nilFunc)) r (fun R=>y_build r (by kernel_rfl)) rfl fun fr r=>?_
 refine seq_upd (.cells (progCells true (encNone.cells ()) 0 0 0 0 .nilFunc) 70 (0,0)) r (fun R=>y_store r (o:=0) (v:=(.agg (progCells true (encNone.cells ()) 0 0 0 0 .nilFunc))) rfl rfl h_b4 ts70 (Nat.le_of_ble_eq_true rfl) rfl rfl) rfl fun fr w7 u8 r=>?_;have z_w7:=u8.size
 have h_b1:=u8.keep h_b1 (by omega)
 have h_b4:=u8.at_;obtain ⟨hB,zB⟩:=u8.on hB (by omega)
 refine wn ?_;refine wp_ret ?_;refine ret_cell r rfl rfl h_b4 (k:=6) rfl ta70 ?_;exact ⟨_,rfl,hB,Rep.done_of⟩

def D.prog_Done_bool (a0:Bool):T Bool:=(T.done a0)

theorem c_prog_Done_bool {n:Nat} {F:Nat→Prop} {w0:World} (hF:∀ b,F b→b<w0.heap.size)
    (a0:Bool) :
    Calls Try.prog 81 #[.bool a0] w0 (RepRes Try.prog encBool n (D.prog_Done_bool a0) F w0):=by
 refine enter Try.func81 rfl 5 rfl rfl fun fr r=>?_;have hB:=Below.refl w0.heap.size w0
 refine wsr ?_;refine seq_new (.cells (progCells false encBool.zero 0 0 0 0 .nilFunc) 76 (0,0)) r (fun R=>y_alloc tz76) rfl fun fr b1 w2 n3 r=>?_;obtain ⟨e_b1,z_w2,h_b1,hB,zB⟩:=n3.all hB
 refine wn ?_;refine wsr ?_;refine seq_val (.bool a0) r (fun R=>y_move r rfl) rfl fun fr r=>?_;refine seq_val (.agg (progCells true (encBool.cells a0) 0 0 0 0 .nilFunc)) r (fun R=>y_build r (by kernel_rfl)) rfl fun fr r=>?_
 refine seq_upd (.cells (progCells true (encBool.cells a0) 0 0 0 0 .nilFunc) 76 (0,0)) r (fun R=>y_store r (o:=0) (v:=(.agg (progCells true (encBool.cells a0) 0 0 0 0 .nilFunc))) rfl rfl h_b1 ts76 (Nat.le_of_ble_eq_true rfl) rfl rfl) rfl fun fr w4 u5 r=>?_;have z_w4:=u5.size
 have h_b1:=u5.at_;obtain ⟨hB,zB⟩:=u5.on hB (by omega)
 refine wn ?_;refine wp_ret ?_;refine ret_cell r rfl rfl h_b1 (k:=7) rfl ta76 ?_;exact ⟨_,rfl,hB,Rep.done_of⟩

def D.prog_Do_bool (a0:Access) (a1:(Int→T Bool)):T Bool:=(T.act a0.op a0.at_ a0.a a0.b a1)

theorem c_prog_Do_bool {n:Nat} {F:Nat→Prop} {w0:World} (hF:∀ b,F b→b<w0.heap.size)
    (a0:Access) {a1_f:FuncId} {a1_1 a1_2:List Value} {a1:(Int→T Bool)} (a1_n:FnT Try.prog encBool u64 (n) F w0 (.func (.func a1_f) a1_1.toArray a1_2.toArray) a1) :
    Calls Try.prog 93 #[.agg (accessC a0).toArray,.func (.func a1_f) a1_1.toArray a1_2.toArray] w0 (RepRes Try.prog encBool n (D.prog_Do_bool a0 a1) F w0):=by
 refine enter Try.func93 rfl 8 rfl rfl fun fr r=>?_;have hB:=Below.refl w0.heap.size w0
 refine wsr ?_;refine seq_new (.cells ((accessC a0)).toArray 36 (0,0)) r (fun R=>y_box r (v:=(.agg (accessC a0).toArray)) rfl) rfl fun fr b1 w2 n3 r=>?_;obtain ⟨e_b1,z_w2,h_b1,hB,zB⟩:=n3.all hB
 refine seq_new (.cells (progCells false encBool.zero 0 0 0 0 .nilFunc) 76 (0,0)) r (fun R=>y_alloc tz76) rfl fun fr b4 w5 n6 r=>?_;have h_b1:=keep n6.below h_b1
 obtain ⟨e_b4,z_w5,h_b4,hB,zB⟩:=n6.all hB;refine wn ?_;refine wsr ?_;refine seq_val (.agg (accessC a0).toArray) r (fun R=>y_load_agg r (cs:=(accessC a0)) (n:=4) rfl h_b1 ta36 rfl) rfl fun fr r=>?_;refine seq_val (.func (.func a1_f) a1_1.toArray a1_2.toArray) r (fun R=>y_move r rfl) rfl fun fr r=>?_
 refine seq_val (.agg (progCells false encBool.zero a0.op a0.at_ a0.a a0.b (.func (.func a1_f) a1_1.toArray a1_2.toArray))) r (fun R=>y_build r (by kernel_rfl)) rfl fun fr r=>?_;refine seq_upd (.cells (progCells false encBool.zero a0.op a0.at_ a0.a a0.b (.func (.func a1_f) a1_1.toArray a1_2.toArray)) 76 (0,0)) r (fun R=>y_store r (o:=0) (v:=(.agg (progCells false encBool.zero a0.op a0.at_ a0.a a0.b (.func (.func a1_f) a1_1.toArray a1_2.toArray)))) rfl rfl h_b4 ts76 (Nat.le_of_ble_eq_true rfl) rfl rfl) rfl fun fr w7 u8 r=>?_
 have z_w7:=u8.size;have h_b1:=u8.keep h_b1 (by omega)
 have h_b4:=u8.at_;obtain ⟨hB,zB⟩:=u8.on hB (by omega)
 refine wn ?_;refine wp_ret ?_;refine ret_cell r rfl rfl h_b4 (k:=7) rfl ta76 ?_;exact ⟨_,rfl,hB,Rep.act_of (a1_n.mono (Nat.le_refl _) (fun b hb=>.inl hb) (Same.below hB hF) hB.size)⟩

def D.prog_Do_uint64 (a0:Access) (a1:(Int→T Int)):T Int:=(T.act a0.op a0.at_ a0.a a0.b a1)

theorem c_prog_Do_uint64 {n:Nat} {F:Nat→Prop} {w0:World} (hF:∀ b,F b→b<w0.heap.size)
    (a0:Access) {a1_f:FuncId} {a1_1 a1_2:List Value} {a1:(Int→T Int)} (a1_n:FnT Try.prog encWord u64 (n) F w0 (.func (.func a1_f) a1_1.toArray a1_2.toArray) a1) :
    Calls Try.prog 58 #[.agg (accessC a0).toArray,.func (.func a1_f) a1_1.toArray a1_2.toArray] w0 (RepRes Try.prog encWord n (D.prog_Do_uint64 a0 a1) F w0):=by
 refine enter Try.func58 rfl 8 rfl rfl fun fr r=>?_;have hB:=Below.refl w0.heap.size w0
 refine wsr ?_;refine seq_new (.cells ((accessC a0)).toArray 36 (0,0)) r (fun R=>y_box r (v:=(.agg (accessC a0).toArray)) rfl) rfl fun fr b1 w2 n3 r=>?_;obtain ⟨e_b1,z_w2,h_b1,hB,zB⟩:=n3.all hB
 refine seq_new (.cells (progCells false encWord.zero 0 0 0 0 .nilFunc) 39 (0,0)) r (fun R=>y_alloc tz39) rfl fun fr b4 w5 n6 r=>?_;have h_b1:=keep n6.below h_b1
 obtain ⟨e_b4,z_w5,h_b4,hB,zB⟩:=n6.all hB;refine wn ?_;refine wsr ?_;refine seq_val (.agg (accessC a0).toArray) r (fun R=>y_load_agg r (cs:=(accessC a0)) (n:=4) rfl h_b1 ta36 rfl) rfl fun fr r=>?_;refine seq_val (.func (.func a1_f) a1_1.toArray a1_2.toArray) r (fun R=>y_move r rfl) rfl fun fr r=>?_
 refine seq_val (.agg (progCells false encWord.zero a0.op a0.at_ a0.a a0.b (.func (.func a1_f) a1_1.toArray a1_2.toArray))) r (fun R=>y_build r (by kernel_rfl)) rfl fun fr r=>?_;refine seq_upd (.cells (progCells false encWord.zero a0.op a0.at_ a0.a a0.b (.func (.func a1_f) a1_1.toArray a1_2.toArray)) 39 (0,0)) r (fun R=>y_store r (o:=0) (v:=(.agg (progCells false encWord.zero a0.op a0.at_ a0.a a0.b (.func (.func a1_f) a1_1.toArray a1_2.toArray)))) rfl rfl h_b4 ts39 (Nat.le_of_ble_eq_true rfl) rfl rfl) rfl fun fr w7 u8 r=>?_
 have z_w7:=u8.size;have h_b1:=u8.keep h_b1 (by omega)
 have h_b4:=u8.at_;obtain ⟨hB,zB⟩:=u8.on hB (by omega)
 refine wn ?_;refine wp_ret ?_;refine ret_cell r rfl rfl h_b4 (k:=7) rfl ta39 ?_;exact ⟨_,rfl,hB,Rep.act_of (a1_n.mono (Nat.le_refl _) (fun b hb=>.inl hb) (Same.below hB hF) hB.size)⟩

def D.prog_Done_uint64 (a0:Int):T Int:=(T.done a0)

theorem c_prog_Done_uint64 {n:Nat} {F:Nat→Prop} {w0:World} (hF:∀ b,F b→b<w0.heap.size)
    (a0:Int) :
    Calls Try.prog 59 #[.int .u64 a0] w0 (RepRes Try.prog encWord n (D.prog_Done_uint64 a0) F w0):=by
 refine enter Try.func59 rfl 5 rfl rfl fun fr r=>?_;have hB:=Below.refl w0.heap.size w0
 refine wsr ?_;refine seq_new (.cells (progCells false encWord.zero 0 0 0 0 .nilFunc) 39 (0,0)) r (fun R=>y_alloc tz39) rfl fun fr b1 w2 n3 r=>?_;obtain ⟨e_b1,z_w2,h_b1,hB,zB⟩:=n3.all hB
 refine wn ?_;refine wsr ?_;refine seq_val (U a0) r (fun R=>y_move r rfl) rfl fun fr r=>?_;refine seq_val (.agg (progCells true (encWord.cells a0) 0 0 0 0 .nilFunc)) r (fun R=>y_build r (by kernel_rfl)) rfl fun fr r=>?_
 refine seq_upd (.cells (progCells true (encWord.cells a0) 0 0 0 0 .nilFunc) 39 (0,0)) r (fun R=>y_store r (o:=0) (v:=(.agg (progCells true (encWord.cells a0) 0 0 0 0 .nilFunc))) rfl rfl h_b1 ts39 (Nat.le_of_ble_eq_true rfl) rfl rfl) rfl fun fr w4 u5 r=>?_;have z_w4:=u5.size
 have h_b1:=u5.at_;obtain ⟨hB,zB⟩:=u5.on hB (by omega)
 refine wn ?_;refine wp_ret ?_;refine ret_cell r rfl rfl h_b1 (k:=7) rfl ta39 ?_;exact ⟨_,rfl,hB,Rep.done_of⟩

def Spec_prog_Then_None_uint64 (n:Nat):Prop:=∀ {F:Nat→Prop} {w0:World},(∀ b,F b→b<w0.heap.size)→∀ {t:T (Unit)} {pv fv:Value} {g:Unit→T (Int)},Rep Try.prog encNone n t F w0 pv→FnT Try.prog encWord noneE n F w0 fv g→
    (t.isDone=false∨FnT Try.prog encWord noneE (n+1) F w0 fv g)→Calls Try.prog 60 #[pv,fv] w0 (RepRes Try.prog encWord n (t.bind g) F w0)

theorem k_prog_Then_None_uint64 {n:Nat} (ih:Spec_prog_Then_None_uint64 n) {F:Nat→Prop} {w0:World} (hF:∀ b,F b→b<w0.heap.size) {op at_ a b:Int} {nf:FuncId} {n1 n2:List Value} {k:Int→T (Unit)} {ff:FuncId} {f1 f2:List Value} {g:Unit→T (Int)}
    {b1 b2:Nat} (F1:F b1) (h1:w0.heap[b1]?=some (.cells (progCells false encNone.zero op at_ a b (.func (.func nf) n1.toArray n2.toArray)) 70 (0,0))) (F2:F b2) (h2:w0.heap[b2]?=some (.cells #[.func (.func ff) f1.toArray f2.toArray] 122 (0,0)))
    (hk:FnT Try.prog encNone u64 (n+1) F w0 (.func (.func nf) n1.toArray n2.toArray) k) (hg:FnT Try.prog encWord noneE (n+1) F w0 (.func (.func ff) f1.toArray f2.toArray) g) (x:Int) :
    Calls Try.prog 85 #[.int .u64 x,.pointer (some ⟨b1,0,none⟩),.pointer (some ⟨b2,0,none⟩)] w0 (RepRes Try.prog encWord n ((k x).bind g) F w0):=by
 refine enter Try.func85 rfl 11 rfl rfl fun fr r=>?_;have hB:=Below.refl w0.heap.size w0
 refine wp_seq (wp_region_lit ?_);refine seq_new (.cells (progCells false encWord.zero 0 0 0 0 .nilFunc) 39 (0,0)) r (fun R=>y_alloc tz39) rfl fun fr b3 w1 q1 r=>wn ?_;have h1:=keep q1.below h1
 have h2:=keep q1.below h2;have e3:=q1.eq;have z1:=q1.size;have h3:=q1.at_;have hB:=hB.trans (q1.below.mono hB.size);have zB:=hB.size;refine wp_seq ?_;refine wp_drawnF 5 [.val (.pointer (some ⟨b1,5,none⟩)),.val (.func (.func nf) n1.toArray n2.toArray),.val (U x),.pred (RepAt Try.prog encNone n (k x) F w0.heap.size b3) RepAt.stable,.val (.func (.func ff) f1.toArray f2.toArray)] mixed r (by kernel_rfl) (within_cons trivial (within_cons trivial (within_cons trivial (within_cons trivial (within_cons trivial within_nil))))) ?_ ?_
 ·
  refine ec r (fun _ u _ b d s=>y_fieldAddr s (b:=b1) (o:=0) rfl fo70_3 bz) ?_;refine each_consF r rfl (fun fr1 u w' hb' hd r'=>?_) ?_
  ·
   obtain ⟨d0,_⟩:=hd;exact y_load_one r' (v:=.func (.func nf) n1.toArray n2.toArray) d0 (keep hb' h1) to68 rfl ⟨Below.refl _ _,rfl⟩
  refine ec r (fun _ u _ b d s=>y_move s rfl bz) ?_;refine each_consF r rfl (fun fr1 u w' hb' hd r'=>?_) ?_
  ·
   obtain ⟨d0,d1,_⟩:=hd;have zb:=hb'.size;have zb:w1.heap.size≤w'.heap.size:=zb;have hB':Below w0.heap.size w0 w':=hB.trans (Below.mono (w:=w1) ⟨hb'.os,hb'.tape,hb'.output,hb'.size,hb'.block⟩ hB.size);have d0:u 1=.func (.func nf) n1.toArray n2.toArray:=d0;have d1:u 2=.int .u64 x:=d1;refine y_callv1 r' (fs:=n1) (cs:=n2) d0 d1 hk.at_.1 ((hk.at_.2 n (Nat.lt_succ_self n) x w' (Same.below hB' hF) hB'.size).mono ?_);rintro _ w2 ⟨v,rfl,hb2,hr2⟩;refine ⟨v,rfl,hb2,RepAt.of_res (fun b h=>Nat.lt_of_lt_of_le (hF b h) hB'.size) (by omega) hB'.size hb2 (Rep.mono ?_ (Same.refl _ _) (Nat.le_refl _) n _ _ hr2)⟩
   rintro b (h | h)
   · exact .inl (.inl h)
   · exact .inr h
  refine ec r (fun _ u _ b d s=>y_load_one s rfl (keep b h2) to122 rfl bz) ?_;exact each_nil
 intro fr u w2 hb hΦ _ r;obtain ⟨_,hr3,_,hr⟩:RepAt Try.prog encNone n (k x) F w0.heap.size b3 (u 3) w2:=hΦ 3 (by decide);have r:=r.congr (sc (hΦ 4 (by decide)) rfl);have z2:=hb.size;have h1:=keep hb h1;have h2:=keep hb h2;have h3:=keep hb h3;have hB2:=hB.trans (hb.mono hB.size);have zB2:=hB2.size;have hF1:∀ b,(fun b=>F b∨(w0.heap.size≤b∧b<w2.heap.size∧b≠b3)) b→b<w2.heap.size:=by rintro b (h | h); exact Nat.lt_of_lt_of_le (hF b h) hB2.size; exact h.2.1
 refine seq_call r (ih (F:=fun b=>F b∨(w0.heap.size≤b∧b<w2.heap.size∧b≠b3)) hF1 hr (hg.mono (by omega) (fun b h=>.inl h) (Same.below hB2 hF) hB2.size)
  (.inr (hg.mono (Nat.le_refl _) (fun b h=>.inl h) (Same.below hB2 hF) hB2.size))) (fun R hc=>y_call r rfl cl60 hc) rfl ?_
 rintro _ w3 ⟨v2,rfl,hb2,hr2⟩;refine ⟨_,rfl,fun fr r=>?_⟩
 have z3:=hb2.size;have h3:=keep hb2 h3;have hB3:=hB2.trans (hb2.mono hB2.size);refine seq_upd (.cells v2.cells 39 (0,0)) r (fun R=>y_storep r hr2.shape rfl rfl h3 ts39 rfl) rfl fun fr w4 u4 r=>wn ?_;have z4:=u4.size
 have h3:=u4.at_;have hB4:=u4.below hB3 (by omega)
 refine wp_ret ?_;have hs:=hr2.shape.cells;refine ret_cell r rfl rfl h3 (k:=7) hs.1 ta39 ?_;rw [←hs.2.2];exact RepRes.fin hB4 hr2 u4 (by rintro b (h | ⟨h1,h2,_⟩); exact .inl h; exact .inr ⟨h1,h2⟩) (by rintro (h | ⟨_,_,h⟩); (have:=hF _ h; omega); exact h rfl) (by omega) (by omega) (by omega)

theorem s_prog_Then_None_uint64 (n:Nat):Spec_prog_Then_None_uint64 n:=by
  induction n using Nat.strongRecOn with
  | _ n ih=>
  intro F w0 hF t pv fv g hp hf hd;obtain ⟨ff,f1,f2,hcf,rfl,hff⟩:=id hf;cases t with
  | cut=>unfold Rep at hp; exact hp.elim
  | done x0=>
    have hf:=hd.resolve_left (by intro h; cases h)
    unfold Rep at hp
    subst hp;refine enter (l:=[.agg (progCells true (encNone.cells x0) 0 0 0 0 .nilFunc),.func (.func ff) f1.toArray f2.toArray]) Try.func60 rfl 15 rfl rfl fun fr r=>?_;have hB:=Below.refl w0.heap.size w0
    refine wp_seq (wp_region_lit ?_);refine seq_new (.cells (progCells true (encNone.cells x0) 0 0 0 0 .nilFunc) 70 (0,0)) r (fun R=>y_box r (v:=.agg (progCells true (encNone.cells x0) 0 0 0 0 .nilFunc)) rfl) rfl fun fr b1 w1 q1 r=>?_;refine seq_new (.cells #[.func (.func ff) f1.toArray f2.toArray] 122 (0,0)) r (fun R=>y_box r (v:=.func (.func ff) f1.toArray f2.toArray) rfl) rfl fun fr b2 w2 q2 r=>?_
    refine seq_new (.cells (progCells false encWord.zero 0 0 0 0 .nilFunc) 39 (0,0)) r (fun R=>y_alloc tz39) rfl fun fr b3 w3 q3 r=>wpList_nil ?_;have h1:=keep q3.below (keep q2.below q1.at_)
    have h2:=keep q3.below q2.at_;have h3:=q3.at_;have e1:=q1.eq; have e2:=q2.eq; have e3:=q3.eq; have z1:=q1.size; have z2:=q2.size; have z3:=q3.size;have hB:=((hB.trans q1.below).trans (q2.below.mono (by omega))).trans (q3.below.mono (by omega))
    have zB:=hB.size;refine wp_seq (wp_seq (wp_region_lit ?_));refine seq_val (.pointer (some ⟨b1,0,none⟩)) r (fun R=>y_fieldAddr r (o:=0) rfl fo70_0) rfl fun fr r=>?_;refine seq_val (.bool true) r (fun R=>y_load_one r (v:=.bool true) rfl h1 to4 rfl) rfl fun fr r=>wpList_nil ?_
    refine wp_cond_split (t:=true) (r.ev rfl) (fun _=>?_) (fun h=>by cases h)
    refine wp_seq (wp_region_lit ?_);refine seq_val (.func (.func ff) f1.toArray f2.toArray) r (fun R=>y_load_one r (v:=.func (.func ff) f1.toArray f2.toArray) rfl h2 to122 rfl) rfl fun fr r=>?_;refine seq_valZ b1 1 r (fun R=>y_fieldAddrZ r rfl fz70 h1) rfl fun fr sp r=>?_
    refine seq_val (.agg #[]) r (fun R=>y_load_zero r rfl ta65) rfl fun fr r=>?_;refine seq_call r (hf.at_.2 n (Nat.lt_succ_self n) x0 w3 (Same.below hB hF) hB.size) (fun R hc=>y_callv r rfl rfl hf.at_.1 hc) rfl ?_
    rintro _ w4 ⟨v,rfl,hb,hr⟩;refine ⟨_,rfl,fun fr r=>?_⟩
    have z4:=hb.size;have h3:=keep hb h3;have hB:=hB.trans (hb.mono hB.size);refine seq_upd (.cells v.cells 39 (0,0)) r (fun R=>y_storep r hr.shape rfl rfl h3 ts39 rfl) rfl fun fr w5 u5 r=>wpList_nil ?_;have z5:=u5.size
    have h3:=u5.at_;have hB:=u5.below hB (by omega)
    refine wp_ret ?_;have hs:=hr.shape.cells;refine ret_cell r rfl rfl h3 (k:=7) hs.1 ta39 ?_;rw [←hs.2.2];exact RepRes.fin hB hr u5 (fun b hb=>.inl hb) (fun h=>by have:=hF _ h; omega) (by omega) (by omega) (by omega)
  | act op at_ a b k=>
    obtain ⟨nf,n1,n2,hcn,rfl,hk⟩:∃ (nf:FuncId) (n1 n2:List Value),callable Try.prog nf=true∧pv=.agg (progCells false encNone.zero op at_ a b (.func (.func nf) n1.toArray n2.toArray))∧FnT Try.prog encNone u64 n F w0 (.func (.func nf) n1.toArray n2.toArray) k:=by
      exact Rep.act_inv hp
    refine enter (l:=[.agg (progCells false encNone.zero op at_ a b (.func (.func nf) n1.toArray n2.toArray)),.func (.func ff) f1.toArray f2.toArray]) Try.func60 rfl 15 rfl rfl fun fr r=>?_;have hB:=Below.refl w0.heap.size w0
    refine wp_seq (wp_region_lit ?_);refine seq_new (.cells (progCells false encNone.zero op at_ a b (.func (.func nf) n1.toArray n2.toArray)) 70 (0,0)) r (fun R=>y_box r (v:=.agg (progCells false encNone.zero op at_ a b (.func (.func nf) n1.toArray n2.toArray))) rfl) rfl fun fr b1 w1 q1 r=>?_;refine seq_new (.cells #[.func (.func ff) f1.toArray f2.toArray] 122 (0,0)) r (fun R=>y_box r (v:=.func (.func ff) f1.toArray f2.toArray) rfl) rfl fun fr b2 w2 q2 r=>?_
    refine seq_new (.cells (progCells false encWord.zero 0 0 0 0 .nilFunc) 39 (0,0)) r (fun R=>y_alloc tz39) rfl fun fr b3 w3 q3 r=>wpList_nil ?_;have h1:=keep q3.below (keep q2.below q1.at_)
    have h2:=keep q3.below q2.at_;have h3:=q3.at_;have e1:=q1.eq; have e2:=q2.eq; have e3:=q3.eq; have z1:=q1.size; have z2:=q2.size; have z3:=q3.size;have hB:=((hB.trans q1.below).trans (q2.below.mono (by omega))).trans (q3.below.mono (by omega))
    have zB:=hB.size;refine wp_seq (wp_seq (wp_region_lit ?_));refine seq_val (.pointer (some ⟨b1,0,none⟩)) r (fun R=>y_fieldAddr r (o:=0) rfl fo70_0) rfl fun fr r=>?_;refine seq_val (.bool false) r (fun R=>y_load_one r (v:=.bool false) rfl h1 to4 rfl) rfl fun fr r=>wpList_nil ?_
    refine wp_cond_split (t:=false) (r.ev rfl) (fun h=>by cases h) (fun _=>?_);refine wp_skip ?_
    refine wp_seq (wp_region_lit ?_);refine seq_val (.pointer (some ⟨b1,1,none⟩)) r (fun R=>y_fieldAddr r (o:=0) rfl fo70_2) rfl fun fr r=>?_;refine seq_val (.agg (accessC (⟨op,at_,a,b⟩:Access)).toArray) r (fun R=>y_load_agg r (cs:=(accessC (⟨op,at_,a,b⟩:Access))) (n:=4) rfl h1 ta36 rfl) rfl fun fr r=>?_
    refine seq_val (.func (.func 85) #[] #[.pointer (some ⟨b1,0,none⟩),.pointer (some ⟨b2,0,none⟩)]) r (fun R=>y_makeFunc r rfl) rfl fun fr r=>?_;have hF1:∀ b,(fun b=>F b∨b=b1∨b=b2) b→b<w3.heap.size:=by rintro b (h | h | h); exact Nat.lt_of_lt_of_le (hF b h) hB.size; omega; omega
    refine seq_call r (c_prog_Do_uint64 (F:=fun b=>F b∨b=b1∨b=b2) (n:=n) hF1 ⟨op,at_,a,b⟩ (a1:=fun x=>(k x).bind g) (show FnT Try.prog encWord u64 n (fun b=>F b∨b=b1∨b=b2) w3 (.func (.func 85) ([]:List Value).toArray [Value.pointer (some ⟨b1,0,none⟩),.pointer (some ⟨b2,0,none⟩)].toArray) (fun x=>(k x).bind g) from
      ⟨85,[],[.pointer (some ⟨b1,0,none⟩),.pointer (some ⟨b2,0,none⟩)],cl85,rfl,fun m hm x w' hs hz=>k_prog_Then_None_uint64 (ih m hm) (fun b hb=>Nat.lt_of_lt_of_le (hF1 b hb) hz) (.inr (.inl rfl)) (hs.at_ (.inr (.inl rfl)) h1) (.inr (.inr rfl)) (hs.at_ (.inr (.inr rfl)) h2)
        (hk.mono (by omega) (fun b h=>.inl h) ((Same.below hB hF).trans (hs.sub (fun b h=>.inl h))) (Nat.le_trans hB.size hz)) (hf.mono (by omega) (fun b h=>.inl h) ((Same.below hB hF).trans (hs.sub (fun b h=>.inl h))) (Nat.le_trans hB.size hz)) x⟩)) (fun R hc=>y_call r rfl cl58 hc) rfl ?_
    rintro _ w4 ⟨v,rfl,hb,hr⟩;refine ⟨_,rfl,fun fr r=>?_⟩
    have z4:=hb.size;have h3:=keep hb h3;have hB:=hB.trans (hb.mono hB.size);refine seq_upd (.cells v.cells 39 (0,0)) r (fun R=>y_storep r hr.shape rfl rfl h3 ts39 rfl) rfl fun fr w5 u5 r=>wpList_nil ?_;have z5:=u5.size
    have h3:=u5.at_;have hB:=u5.below hB (by omega)
    refine wp_ret ?_;have hs:=hr.shape.cells;refine ret_cell r rfl rfl h3 (k:=7) hs.1 ta39 ?_;rw [←hs.2.2];exact RepRes.fin hB hr u5 (by rintro b (h | h | h); exact .inl h; exact .inr ⟨by omega,by omega⟩; exact .inr ⟨by omega,by omega⟩) (by rintro (h | h | h); (have:=hF _ h; omega); omega; omega) (by omega) (by omega) (by omega)

theorem c_prog_Then_None_uint64_le {n:Nat} {F:Nat→Prop} {w0:World} (hF:∀ b,F b→b<w0.heap.size) {t:T (Unit)} {pv fv:Value} {g:Unit→T (Int)} (hp:Rep Try.prog encNone n t F w0 pv) (hf:FnT Try.prog encWord noneE (n+1) F w0 fv g) :
    Calls Try.prog 60 #[pv,fv] w0 (RepRes Try.prog encWord n (t.bind g) F w0):=s_prog_Then_None_uint64 n hF hp (hf.mono (by omega) (fun b h=>h) (Same.refl _ _) (Nat.le_refl _)) (.inr hf)

end Go.Proofs.Ytikjpdpgdmbdpaa

/- Written by a program of ours (wip/gen.py): programs of one access -/
set_option linter.unusedVariables false
set_option maxRecDepth 20000
set_option maxHeartbeats 2000000
namespace Go.Proofs.Ytikjpdpgdmbdpaa
open Go.RowKit
theorem cl78:callable Try.prog 78=true:=by kernel_rfl

theorem cl79:callable Try.prog 79=true:=by kernel_rfl

theorem cl80:callable Try.prog 80=true:=by kernel_rfl

theorem cl91:callable Try.prog 91=true:=by kernel_rfl

theorem cl92:callable Try.prog 92=true:=by kernel_rfl

theorem cl93:callable Try.prog 93=true:=by kernel_rfl

theorem to133:tyO Try.prog 133=true:=by kernel_rfl

def D.prog_Store_None_1 (c0:(Unit→T Unit)) (a0:Int):T Unit:=(c0 ())

theorem c_prog_Store_None_1 {n:Nat} {F:Nat→Prop} {w0:World} (hF:∀ b,F b→b<w0.heap.size)
    {c0_f:FuncId} {c0_1 c0_2:List Value} {c0:(Unit→T Unit)} {c0_b:Nat} (c0_F:F c0_b) (c0_h:w0.heap[c0_b]?=some (.cells #[.func (.func c0_f) c0_1.toArray c0_2.toArray] 133 (0,0))) (c0_n:FnT Try.prog encNone unitE (n+1) F w0 (.func (.func c0_f) c0_1.toArray c0_2.toArray) c0) (a0:Int) :
    Calls Try.prog 92 #[.int .u64 a0,.pointer (some ⟨c0_b,0,none⟩)] w0 (RepRes Try.prog encNone n (D.prog_Store_None_1 c0 a0) F w0):=by
 refine enter Try.func92 rfl 6 rfl rfl fun fr r=>?_;have hB:=Below.refl w0.heap.size w0
 have l_c0_b:=lt_of_block c0_h;refine wsr ?_;refine seq_new (.cells (progCells false encNone.zero 0 0 0 0 .nilFunc) 70 (0,0)) r (fun R=>y_alloc tz70) rfl fun fr b1 w2 n3 r=>?_;obtain ⟨e_b1,z_w2,h_b1,hB,zB⟩:=n3.all hB
 refine wn ?_;refine wsr ?_;refine seq_val (.func (.func c0_f) c0_1.toArray c0_2.toArray) r (fun R=>y_load_one r rfl (keep hB c0_h) to133 rfl) rfl fun fr r=>?_;refine seq_call r (c0_n.at_.2 n (Nat.lt_succ_self n) () w2 (Same.below hB hF) hB.size) (fun R hc=>y_callv0 r rfl c0_n.at_.1 hc) rfl ?_
 rintro _ w4 ⟨v5,rfl,hb,hr6⟩;refine ⟨_,rfl,fun fr r=>?_⟩
 have z_w4:=hb.size;have h_b1:=keep hb h_b1;obtain ⟨hB,zB⟩:=bon hb hB;refine seq_upd (.cells v5.cells 70 (0,0)) r (fun R=>y_storep r hr6.shape rfl rfl h_b1 ts70 rfl) rfl fun fr w7 u8 r=>?_;have z_w7:=u8.size
 have h_b1:=u8.at_;obtain ⟨hB,zB⟩:=u8.on hB (by omega)
 refine wn ?_;refine wp_ret ?_;have hs:=hr6.shape.cells;refine ret_cell r rfl rfl h_b1 (k:=6) hs.1 ta70 ?_;rw [←hs.2.2];exact RepRes.fin hB hr6 u8 (fun b hb=>.inl hb) (fun h=>by have:=hF _ h; omega) (by omega) (by omega) (by omega)

def D.prog_Store_None (a0:Int) (a1:Int) (a2:(Unit→T Unit)):T Unit:=(D.prog_Do_None (⟨1,a0,a1,0⟩:Access) (fun x=>(D.prog_Store_None_1 a2 x)))

theorem c_prog_Store_None {n:Nat} {F:Nat→Prop} {w0:World} (hF:∀ b,F b→b<w0.heap.size)
    (a0:Int) (a1:Int) {a2_f:FuncId} {a2_1 a2_2:List Value} {a2:(Unit→T Unit)} (a2_n:FnT Try.prog encNone unitE (n) F w0 (.func (.func a2_f) a2_1.toArray a2_2.toArray) a2) :
    Calls Try.prog 78 #[.int .i64 a0,.int .u64 a1,.func (.func a2_f) a2_1.toArray a2_2.toArray] w0 (RepRes Try.prog encNone n (D.prog_Store_None a0 a1 a2) F w0):=by
 refine enter Try.func78 rfl 12 rfl rfl fun fr r=>?_;have hB:=Below.refl w0.heap.size w0
 refine wsr ?_;refine seq_new (.cells #[.func (.func a2_f) a2_1.toArray a2_2.toArray] 133 (0,0)) r (fun R=>y_box r (v:=(.func (.func a2_f) a2_1.toArray a2_2.toArray)) rfl) rfl fun fr b1 w2 n3 r=>?_;obtain ⟨e_b1,z_w2,h_b1,hB,zB⟩:=n3.all hB
 refine seq_new (.cells (progCells false encNone.zero 0 0 0 0 .nilFunc) 70 (0,0)) r (fun R=>y_alloc tz70) rfl fun fr b4 w5 n6 r=>?_;have h_b1:=keep n6.below h_b1
 obtain ⟨e_b4,z_w5,h_b4,hB,zB⟩:=n6.all hB;refine wn ?_;refine wsr ?_;refine seq_val (I a0) r (fun R=>y_move r rfl) rfl fun fr r=>?_;refine seq_val (U a1) r (fun R=>y_move r rfl) rfl fun fr r=>?_
 refine seq_val (.agg (accessC (⟨1,a0,a1,0⟩:Access)).toArray) r (fun R=>y_build r (by kernel_rfl)) rfl fun fr r=>?_;refine seq_val (.func (.func 92) #[] #[.pointer (some ⟨b1,0,none⟩)]) r (fun R=>y_makeFunc r rfl) rfl fun fr r=>?_
 have hF1:=fgrow hF hB b4;have f7:((fun b=>F b∨(w0.heap.size≤b∧b<w5.heap.size∧b≠b4))) b1:=(.inr ⟨by omega,by omega,by omega⟩)
 refine seq_call r (c_prog_Do_None (F:=(fun b=>F b∨(w0.heap.size≤b∧b<w5.heap.size∧b≠b4))) (n:=n) hF1 (⟨1,a0,a1,0⟩:Access) ⟨92,[],[.pointer (some ⟨b1,0,none⟩)],cl92,rfl,fun m hm x w' hs hz=>c_prog_Store_None_1 (fun b hb=>Nat.lt_of_lt_of_le (hF1 b hb) hz) f7 (hs.at_ f7 h_b1) (a2_n.mono (by omega) (fun b h=>.inl h) ((Same.below hB hF).trans (hs.sub (fun b h=>.inl h))) (Nat.le_trans hB.size hz)) x⟩) (fun R hc=>y_call r rfl cl91 hc) rfl ?_;rintro _ w8 ⟨v9,rfl,hb,hr10⟩
 refine ⟨_,rfl,fun fr r=>?_⟩
 have z_w8:=hb.size;have h_b1:=keep hb h_b1;have h_b4:=keep hb h_b4;obtain ⟨hB,zB⟩:=bon hb hB;refine seq_upd (.cells v9.cells 70 (0,0)) r (fun R=>y_storep r hr10.shape rfl rfl h_b4 ts70 rfl) rfl fun fr w11 u12 r=>?_;have z_w11:=u12.size
 have h_b1:=u12.keep h_b1 (by omega)
 have h_b4:=u12.at_;obtain ⟨hB,zB⟩:=u12.on hB (by omega)
 refine wn ?_;refine wp_ret ?_;have hs:=hr10.shape.cells;refine ret_cell r rfl rfl h_b4 (k:=6) hs.1 ta70 ?_;rw [←hs.2.2];exact rfin hF hB hr10 u12 (by omega) (by omega) (by omega)

def D.prog_Set_1 :T Unit:=D.prog_Done_None

theorem c_prog_Set_1 {n:Nat} {F:Nat→Prop} {w0:World} (hF:∀ b,F b→b<w0.heap.size)
     :
    Calls Try.prog 79 #[] w0 (RepRes Try.prog encNone n D.prog_Set_1 F w0):=by
 refine enter Try.func79 rfl 3 rfl rfl fun fr r=>?_;have hB:=Below.refl w0.heap.size w0
 refine wsr ?_;refine seq_new (.cells (progCells false encNone.zero 0 0 0 0 .nilFunc) 70 (0,0)) r (fun R=>y_alloc tz70) rfl fun fr b1 w2 n3 r=>?_;obtain ⟨e_b1,z_w2,h_b1,hB,zB⟩:=n3.all hB
 refine wn ?_;refine wsr ?_;refine seq_val (.agg #[]) r (fun R=>y_build r (by kernel_rfl)) rfl fun fr r=>?_;have hF1:=fgrow hF hB b1
 refine seq_call r (c_prog_Done_None (F:=(fun b=>F b∨(w0.heap.size≤b∧b<w2.heap.size∧b≠b1))) (n:=n) hF1 ) (fun R hc=>y_call r rfl cl80 hc) rfl ?_;rintro _ w4 ⟨v5,rfl,hb,hr6⟩
 refine ⟨_,rfl,fun fr r=>?_⟩
 have z_w4:=hb.size;have h_b1:=keep hb h_b1;obtain ⟨hB,zB⟩:=bon hb hB;refine seq_upd (.cells v5.cells 70 (0,0)) r (fun R=>y_storep r hr6.shape rfl rfl h_b1 ts70 rfl) rfl fun fr w7 u8 r=>?_;have z_w7:=u8.size
 have h_b1:=u8.at_;obtain ⟨hB,zB⟩:=u8.on hB (by omega)
 refine wn ?_;refine wp_ret ?_;have hs:=hr6.shape.cells;refine ret_cell r rfl rfl h_b1 (k:=6) hs.1 ta70 ?_;rw [←hs.2.2];exact rfin hF hB hr6 u8 (by omega) (by omega) (by omega)

def D.prog_Set (a0:Int) (a1:Int):T Unit:=(D.prog_Store_None a0 a1 (fun _=>D.prog_Set_1))

theorem c_prog_Set {n:Nat} {F:Nat→Prop} {w0:World} (hF:∀ b,F b→b<w0.heap.size)
    (a0:Int) (a1:Int) :
    Calls Try.prog 50 #[.int .i64 a0,.int .u64 a1] w0 (RepRes Try.prog encNone n (D.prog_Set a0 a1) F w0):=by
 refine enter Try.func50 rfl 8 rfl rfl fun fr r=>?_;have hB:=Below.refl w0.heap.size w0
 refine wsr ?_;refine seq_new (.cells (progCells false encNone.zero 0 0 0 0 .nilFunc) 70 (0,0)) r (fun R=>y_alloc tz70) rfl fun fr b1 w2 n3 r=>?_;obtain ⟨e_b1,z_w2,h_b1,hB,zB⟩:=n3.all hB
 refine wn ?_;refine wsr ?_;refine seq_val (I a0) r (fun R=>y_move r rfl) rfl fun fr r=>?_;refine seq_val (U a1) r (fun R=>y_move r rfl) rfl fun fr r=>?_
 have hF1:=fgrow hF hB b1;refine seq_call r (c_prog_Store_None (F:=(fun b=>F b∨(w0.heap.size≤b∧b<w2.heap.size∧b≠b1))) (n:=n) hF1 a0 a1 ⟨79,[],[],cl79,rfl,fun m hm _ w' hs hz=>c_prog_Set_1 (fun b hb=>Nat.lt_of_lt_of_le (hF1 b hb) hz) ⟩) (fun R hc=>y_call r rfl cl78 hc) rfl ?_;rintro _ w4 ⟨v5,rfl,hb,hr6⟩
 refine ⟨_,rfl,fun fr r=>?_⟩
 have z_w4:=hb.size;have h_b1:=keep hb h_b1;obtain ⟨hB,zB⟩:=bon hb hB;refine seq_upd (.cells v5.cells 70 (0,0)) r (fun R=>y_storep r hr6.shape rfl rfl h_b1 ts70 rfl) rfl fun fr w7 u8 r=>?_;have z_w7:=u8.size
 have h_b1:=u8.at_;obtain ⟨hB,zB⟩:=u8.on hB (by omega)
 refine wn ?_;refine wp_ret ?_;have hs:=hr6.shape.cells;refine ret_cell r rfl rfl h_b1 (k:=6) hs.1 ta70 ?_;rw [←hs.2.2];exact rfin hF hB hr6 u8 (by omega) (by omega) (by omega)

def D.prog_Load_bool (a0:Int) (a1:(Int→T Bool)):T Bool:=(D.prog_Do_bool (⟨0,a0,0,0⟩:Access) a1)

theorem c_prog_Load_bool {n:Nat} {F:Nat→Prop} {w0:World} (hF:∀ b,F b→b<w0.heap.size)
    (a0:Int) {a1_f:FuncId} {a1_1 a1_2:List Value} {a1:(Int→T Bool)} (a1_n:FnT Try.prog encBool u64 (n) F w0 (.func (.func a1_f) a1_1.toArray a1_2.toArray) a1) :
    Calls Try.prog 82 #[.int .i64 a0,.func (.func a1_f) a1_1.toArray a1_2.toArray] w0 (RepRes Try.prog encBool n (D.prog_Load_bool a0 a1) F w0):=by
 refine enter Try.func82 rfl 9 rfl rfl fun fr r=>?_;have hB:=Below.refl w0.heap.size w0
 refine wsr ?_;refine seq_new (.cells (progCells false encBool.zero 0 0 0 0 .nilFunc) 76 (0,0)) r (fun R=>y_alloc tz76) rfl fun fr b1 w2 n3 r=>?_;obtain ⟨e_b1,z_w2,h_b1,hB,zB⟩:=n3.all hB
 refine wn ?_;refine wsr ?_;refine seq_val (I a0) r (fun R=>y_move r rfl) rfl fun fr r=>?_;refine seq_val (.agg (accessC (⟨0,a0,0,0⟩:Access)).toArray) r (fun R=>y_build r (by kernel_rfl)) rfl fun fr r=>?_
 refine seq_val (.func (.func a1_f) a1_1.toArray a1_2.toArray) r (fun R=>y_move r rfl) rfl fun fr r=>?_;have hF1:=fgrow hF hB b1
 refine seq_call r (c_prog_Do_bool (F:=(fun b=>F b∨(w0.heap.size≤b∧b<w2.heap.size∧b≠b1))) (n:=n) hF1 (⟨0,a0,0,0⟩:Access) (a1_n.mono (by omega) (fun b h=>.inl h) (Same.below hB hF) hB.size)) (fun R hc=>y_call r rfl cl93 hc) rfl ?_;rintro _ w4 ⟨v5,rfl,hb,hr6⟩
 refine ⟨_,rfl,fun fr r=>?_⟩
 have z_w4:=hb.size;have h_b1:=keep hb h_b1;obtain ⟨hB,zB⟩:=bon hb hB;refine seq_upd (.cells v5.cells 76 (0,0)) r (fun R=>y_storep r hr6.shape rfl rfl h_b1 ts76 rfl) rfl fun fr w7 u8 r=>?_;have z_w7:=u8.size
 have h_b1:=u8.at_;obtain ⟨hB,zB⟩:=u8.on hB (by omega)
 refine wn ?_;refine wp_ret ?_;have hs:=hr6.shape.cells;refine ret_cell r rfl rfl h_b1 (k:=7) hs.1 ta76 ?_;rw [←hs.2.2];exact rfin hF hB hr6 u8 (by omega) (by omega) (by omega)

def D.prog_Load_uint64 (a0:Int) (a1:(Int→T Int)):T Int:=(D.prog_Do_uint64 (⟨0,a0,0,0⟩:Access) a1)

theorem c_prog_Load_uint64 {n:Nat} {F:Nat→Prop} {w0:World} (hF:∀ b,F b→b<w0.heap.size)
    (a0:Int) {a1_f:FuncId} {a1_1 a1_2:List Value} {a1:(Int→T Int)} (a1_n:FnT Try.prog encWord u64 (n) F w0 (.func (.func a1_f) a1_1.toArray a1_2.toArray) a1) :
    Calls Try.prog 36 #[.int .i64 a0,.func (.func a1_f) a1_1.toArray a1_2.toArray] w0 (RepRes Try.prog encWord n (D.prog_Load_uint64 a0 a1) F w0):=by
 refine enter Try.func36 rfl 9 rfl rfl fun fr r=>?_;have hB:=Below.refl w0.heap.size w0
 refine wsr ?_;refine seq_new (.cells (progCells false encWord.zero 0 0 0 0 .nilFunc) 39 (0,0)) r (fun R=>y_alloc tz39) rfl fun fr b1 w2 n3 r=>?_;obtain ⟨e_b1,z_w2,h_b1,hB,zB⟩:=n3.all hB
 refine wn ?_;refine wsr ?_;refine seq_val (I a0) r (fun R=>y_move r rfl) rfl fun fr r=>?_;refine seq_val (.agg (accessC (⟨0,a0,0,0⟩:Access)).toArray) r (fun R=>y_build r (by kernel_rfl)) rfl fun fr r=>?_
 refine seq_val (.func (.func a1_f) a1_1.toArray a1_2.toArray) r (fun R=>y_move r rfl) rfl fun fr r=>?_;have hF1:=fgrow hF hB b1
 refine seq_call r (c_prog_Do_uint64 (F:=(fun b=>F b∨(w0.heap.size≤b∧b<w2.heap.size∧b≠b1))) (n:=n) hF1 (⟨0,a0,0,0⟩:Access) (a1_n.mono (by omega) (fun b h=>.inl h) (Same.below hB hF) hB.size)) (fun R hc=>y_call r rfl cl58 hc) rfl ?_;rintro _ w4 ⟨v5,rfl,hb,hr6⟩
 refine ⟨_,rfl,fun fr r=>?_⟩
 have z_w4:=hb.size;have h_b1:=keep hb h_b1;obtain ⟨hB,zB⟩:=bon hb hB;refine seq_upd (.cells v5.cells 39 (0,0)) r (fun R=>y_storep r hr6.shape rfl rfl h_b1 ts39 rfl) rfl fun fr w7 u8 r=>?_;have z_w7:=u8.size
 have h_b1:=u8.at_;obtain ⟨hB,zB⟩:=u8.on hB (by omega)
 refine wn ?_;refine wp_ret ?_;have hs:=hr6.shape.cells;refine ret_cell r rfl rfl h_b1 (k:=7) hs.1 ta39 ?_;rw [←hs.2.2];exact rfin hF hB hr6 u8 (by omega) (by omega) (by omega)

end Go.Proofs.Ytikjpdpgdmbdpaa

/- Written by a program of ours (wip/gen.py): the list of free nodes -/
set_option linter.unusedVariables false
set_option maxRecDepth 20000
set_option maxHeartbeats 2000000
namespace Go.Proofs.Ytikjpdpgdmbdpaa
open Go.RowKit
theorem cl47:callable Try.prog 47=true:=by kernel_rfl

theorem cl48:callable Try.prog 48=true:=by kernel_rfl

theorem cl50:callable Try.prog 50=true:=by kernel_rfl

theorem cl55:callable Try.prog 55=true:=by kernel_rfl

theorem cl74:callable Try.prog 74=true:=by kernel_rfl

theorem cl84:callable Try.prog 84=true:=by kernel_rfl

theorem ti22:intTy Try.prog 22 .u64=true:=by kernel_rfl

theorem ti3:intTy Try.prog 3 .i64=true:=by kernel_rfl

def D.free_link (a0:Int):Int:=(IntKind.u64.wrap (IntKind.i64.wrap (a0+1)))

theorem c_free_link (w0:World) 
    (a0:Int) :
    Calls Try.prog 74 #[.int .i64 a0] w0 (PureRes (.int .u64 (D.free_link a0)) w0):=by
 refine enter Try.func74 rfl 6 rfl rfl fun fr r=>?_;have hB:=Below.refl w0.heap.size w0
 refine wsr ?_;refine seq_val (U 0) r (fun R=>y_assign r rfl) rfl fun fr r=>?_;refine wn ?_
 refine wsr ?_;refine seq_val (I a0) r (fun R=>y_move r rfl) rfl fun fr r=>?_;refine seq_val _ r (fun R=>y_bin r rfl rfl rfl rfl) rfl fun fr r=>?_
 refine seq_val (U (V (W (a0+1)))) r (fun R=>y_convert r rfl ti3 ti22) rfl fun fr r=>?_;refine seq_val (U (V (W (a0+1)))) r (fun R=>y_assign r rfl) rfl fun fr r=>?_
 refine wn ?_;refine wp_ret ?_;refine ret_tmp r rfl rfl ?_;exact ⟨rfl,hB⟩

def D.free_fresh_1 (r_free_fresh:Plan→Int→T Unit) (c0:Plan) (c1:Int):T Unit:=(r_free_fresh c0 (IntKind.i64.wrap (c1+1)))

def D.free_fresh_body (r_free_fresh:Plan→Int→T Unit) (a0:Plan) (a1:Int):T Unit:=(bif (a1==a0.nodes) then (D.prog_Set (D.plan_Plan_Head a0) (D.free_link 0)) else (let x19:Int:=(bif ((IntKind.i64.wrap (a1+1))==a0.nodes) then 0 else (D.free_link (IntKind.i64.wrap (a1+1)))); (D.prog_Store_None (D.plan_Plan_Next a0 a1) x19 (fun _=>(D.free_fresh_1 r_free_fresh a0 a1)))))

def D.free_fresh:Nat→Plan→Int→T Unit
  | 0,_,_=>.cut
  | k+1,a0,a1=>D.free_fresh_body (D.free_fresh k) a0 a1

def Spec_free_fresh (r:Plan→Int→T Unit) (n:Nat):Prop:=∀ (F:Nat→Prop) (w0:World),(∀ b,F b→b<w0.heap.size)→∀ (a0:Plan) (a1:Int),Calls Try.prog 55 #[.agg (planC a0).toArray,.int .i64 a1] w0 (RepRes Try.prog encNone n (r a0 a1) F w0)

theorem c_free_fresh_1 {n:Nat} {F:Nat→Prop} {r_free_fresh:Plan→Int→T Unit} {w0:World} (hF:∀ b,F b→b<w0.heap.size) (ih_free_fresh:∀ m,m≤n→Spec_free_fresh r_free_fresh m)
    (c0:Plan) {c0_b:Nat} (c0_F:F c0_b) (c0_h:w0.heap[c0_b]?=some (.cells ((planC c0)).toArray 26 (0,0))) (c1:Int) {c1_b:Nat} (c1_F:F c1_b) (c1_h:w0.heap[c1_b]?=some (.cells ([(.int .i64 c1)]).toArray 3 (0,0))) :
    Calls Try.prog 84 #[.pointer (some ⟨c0_b,0,none⟩),.pointer (some ⟨c1_b,0,none⟩)] w0 (RepRes Try.prog encNone n (D.free_fresh_1 r_free_fresh c0 c1) F w0):=by
 refine enter Try.func84 rfl 7 rfl rfl fun fr r=>?_;have hB:=Below.refl w0.heap.size w0
 have l_c0_b:=lt_of_block c0_h;have l_c1_b:=lt_of_block c1_h;refine wsr ?_;refine seq_new (.cells (progCells false encNone.zero 0 0 0 0 .nilFunc) 70 (0,0)) r (fun R=>y_alloc tz70) rfl fun fr b1 w2 n3 r=>?_;obtain ⟨e_b1,z_w2,h_b1,hB,zB⟩:=n3.all hB
 refine wn ?_;refine wsr ?_;refine seq_val (.agg (planC c0).toArray) r (fun R=>y_load_agg r (cs:=(planC c0)) (n:=6) rfl (keep hB c0_h) ta26 rfl) rfl fun fr r=>?_;refine seq_val (I c1) r (fun R=>y_load_one r rfl (keep hB c1_h) to3 rfl) rfl fun fr r=>?_
 refine seq_val _ r (fun R=>y_bin r rfl rfl rfl rfl) rfl fun fr r=>?_;have hF1:=fgrow hF hB b1
 refine seq_call r ((ih_free_fresh n (by omega)) (fun b=>F b∨(w0.heap.size≤b∧b<w2.heap.size∧b≠b1)) _ hF1 c0 (W (c1+1))) (fun R hc=>y_call r rfl cl55 hc) rfl ?_;rintro _ w4 ⟨v5,rfl,hb,hr6⟩
 refine ⟨_,rfl,fun fr r=>?_⟩
 have z_w4:=hb.size;have h_b1:=keep hb h_b1;obtain ⟨hB,zB⟩:=bon hb hB;refine seq_upd (.cells v5.cells 70 (0,0)) r (fun R=>y_storep r hr6.shape rfl rfl h_b1 ts70 rfl) rfl fun fr w7 u8 r=>?_;have z_w7:=u8.size
 have h_b1:=u8.at_;obtain ⟨hB,zB⟩:=u8.on hB (by omega)
 refine wn ?_;refine wp_ret ?_;have hs:=hr6.shape.cells;refine ret_cell r rfl rfl h_b1 (k:=6) hs.1 ta70 ?_;rw [←hs.2.2];exact rfin hF hB hr6 u8 (by omega) (by omega) (by omega)

theorem b_free_fresh {n:Nat} {F:Nat→Prop} {r_free_fresh:Plan→Int→T Unit} {w0:World} (hF:∀ b,F b→b<w0.heap.size) (ih_free_fresh:∀ m,m<n→Spec_free_fresh r_free_fresh m)
    (a0:Plan) (a1:Int) :
    Calls Try.prog 55 #[.agg (planC a0).toArray,.int .i64 a1] w0 (RepRes Try.prog encNone n (D.free_fresh_body r_free_fresh a0 a1) F w0):=by
 refine enter Try.func55 rfl 28 rfl rfl fun fr r=>?_;have hB:=Below.refl w0.heap.size w0
 refine wsr ?_;refine seq_new (.cells ((planC a0)).toArray 26 (0,0)) r (fun R=>y_box r (v:=(.agg (planC a0).toArray)) rfl) rfl fun fr b1 w2 n3 r=>?_;obtain ⟨e_b1,z_w2,h_b1,hB,zB⟩:=n3.all hB
 refine seq_new (.cells #[(I a1)] 3 (0,0)) r (fun R=>y_box r (v:=(I a1)) rfl) rfl fun fr b4 w5 n6 r=>?_;have h_b1:=keep n6.below h_b1
 obtain ⟨e_b4,z_w5,h_b4,hB,zB⟩:=n6.all hB;refine seq_new (.cells (progCells false encNone.zero 0 0 0 0 .nilFunc) 70 (0,0)) r (fun R=>y_alloc tz70) rfl fun fr b7 w8 n9 r=>?_;have h_b1:=keep n9.below h_b1
 have h_b4:=keep n9.below h_b4;obtain ⟨e_b7,z_w8,h_b7,hB,zB⟩:=n9.all hB;refine wn ?_;refine wp_seq ?_;refine wsr ?_;refine seq_val (I a1) r (fun R=>y_load_one r rfl h_b4 to3 rfl) rfl fun fr r=>?_;refine seq_val _ r (fun R=>y_fieldAddr r (o:=0) rfl fo26_0) rfl fun fr r=>?_
 refine seq_val (I a0.nodes) r (fun R=>y_load_one r rfl h_b1 to3 rfl) rfl fun fr r=>?_;refine seq_val _ r (fun R=>y_bin r rfl rfl rfl rfl) rfl fun fr r=>?_
 refine wn ?_;refine wp_cond_split (t:=(a1==a0.nodes)) (r.ev rfl) (fun h10=>?_) (fun h10=>?_)
 ·
  refine wsr ?_;refine seq_val (.agg (planC a0).toArray) r (fun R=>y_load_agg r (cs:=(planC a0)) (n:=6) rfl h_b1 ta26 rfl) rfl fun fr r=>?_;refine seq_call r (c_plan_Plan_Head w8 a0) (fun R hc=>y_call r rfl cl47 hc) rfl ?_
  rintro _ w11 ⟨rfl,hb⟩;refine ⟨_,rfl,fun fr r=>?_⟩
  have z_w11:=hb.size;have h_b1:=keep hb h_b1;have h_b4:=keep hb h_b4;have h_b7:=keep hb h_b7;obtain ⟨hB,zB⟩:=bon hb hB;refine seq_call r (c_free_link w11 0) (fun R hc=>y_call r rfl cl74 hc) rfl ?_;rintro _ w12 ⟨rfl,hb⟩
  refine ⟨_,rfl,fun fr r=>?_⟩
  have z_w12:=hb.size;have h_b1:=keep hb h_b1;have h_b4:=keep hb h_b4;have h_b7:=keep hb h_b7;obtain ⟨hB,zB⟩:=bon hb hB;have hF1:=fgrow hF hB b7;refine seq_call r (c_prog_Set (F:=(fun b=>F b∨(w0.heap.size≤b∧b<w12.heap.size∧b≠b7))) (n:=n) hF1 (D.plan_Plan_Head a0) (D.free_link 0)) (fun R hc=>y_call r rfl cl50 hc) rfl ?_;rintro _ w13 ⟨v14,rfl,hb,hr15⟩
  refine ⟨_,rfl,fun fr r=>?_⟩
  have z_w13:=hb.size;have h_b1:=keep hb h_b1;have h_b4:=keep hb h_b4;have h_b7:=keep hb h_b7;obtain ⟨hB,zB⟩:=bon hb hB;refine seq_upd (.cells v14.cells 70 (0,0)) r (fun R=>y_storep r hr15.shape rfl rfl h_b7 ts70 rfl) rfl fun fr w16 u17 r=>?_;have z_w16:=u17.size
  have h_b1:=u17.keep h_b1 (by omega)
  have h_b4:=u17.keep h_b4 (by omega)
  have h_b7:=u17.at_;obtain ⟨hB,zB⟩:=u17.on hB (by omega)
  refine wn ?_;refine wp_ret ?_;have hd:D.free_fresh_body r_free_fresh a0 a1=(D.prog_Set (D.plan_Plan_Head a0) (D.free_link 0)):=(cond_t h10).trans (rfl);have hs:=hr15.shape.cells;refine ret_cell r rfl rfl h_b7 (k:=6) hs.1 ta70 ?_;rw [←hs.2.2,hd];exact rfin hF hB hr15 u17 (by omega) (by omega) (by omega)
 refine wp_skip ?_;refine wsr ?_;refine seq_val (I a1) r (fun R=>y_load_one r rfl h_b4 to3 rfl) rfl fun fr r=>?_;refine seq_val _ r (fun R=>y_bin r rfl rfl rfl rfl) rfl fun fr r=>?_
 refine seq_call r (c_free_link w8 (W (a1+1))) (fun R hc=>y_call r rfl cl74 hc) rfl ?_;rintro _ w18 ⟨rfl,hb⟩
 refine ⟨_,rfl,fun fr r=>?_⟩
 have z_w18:=hb.size;have h_b1:=keep hb h_b1;have h_b4:=keep hb h_b4;have h_b7:=keep hb h_b7;obtain ⟨hB,zB⟩:=bon hb hB;refine seq_val (U (D.free_link (W (a1+1)))) r (fun R=>y_assign r rfl) rfl fun fr r=>?_;refine wn ?_
 refine wp_seq ?_;refine wsr ?_;refine seq_val (I a1) r (fun R=>y_load_one r rfl h_b4 to3 rfl) rfl fun fr r=>?_;refine seq_val _ r (fun R=>y_bin r rfl rfl rfl rfl) rfl fun fr r=>?_
 refine seq_val _ r (fun R=>y_fieldAddr r (o:=0) rfl fo26_0) rfl fun fr r=>?_;refine seq_val (I a0.nodes) r (fun R=>y_load_one r rfl h_b1 to3 rfl) rfl fun fr r=>?_
 refine seq_val _ r (fun R=>y_bin r rfl rfl rfl rfl) rfl fun fr r=>?_;refine wn ?_
 obtain ⟨x19,hx19⟩:∃ x:Int,x=(bif ((W (a1+1))==a0.nodes) then 0 else (D.free_link (W (a1+1)))):=⟨_,rfl⟩
 refine wp_join (N:=28) [(0,(.agg (planC a0).toArray)),(1,(I a1)),(2,(.pointer (some ⟨b1,0,none⟩))),(3,(.pointer (some ⟨b4,0,none⟩))),(4,(.pointer (some ⟨b7,0,none⟩))),(5,(U x19))] (fun w=>Below w0.heap.size w0 w∧w18.heap.size≤w.heap.size∧w.heap[b1]?=some (.cells ((planC a0)).toArray 26 (0,0))∧w.heap[b4]?=some (.cells #[(I a1)] 3 (0,0))∧w.heap[b7]?=some (.cells (progCells false encNone.zero 0 0 0 0 .nilFunc) 70 (0,0))) ?_ ?_
 ·
  refine wp_cond_split (t:=((W (a1+1))==a0.nodes)) (r.ev rfl) (fun h20=>?_) (fun h20=>?_)
  ·
   refine wp_region_lit ?_;refine seq_val (U 0) r (fun R=>y_assign r rfl) rfl fun fr r=>?_;refine wn ?_
   exact ⟨rfl,_,r,(hs_cons rfl (hs_cons rfl (hs_cons rfl (hs_cons rfl (hs_cons rfl (hs_cons (by rw [hx19,cond_t h20]; rfl) hs_nil)))))),hB,(by omega),h_b1,h_b4,h_b7⟩
  refine wp_skip ?_;exact ⟨rfl,_,r,(hs_cons rfl (hs_cons rfl (hs_cons rfl (hs_cons rfl (hs_cons rfl (hs_cons (by rw [hx19,cond_f h20]; rfl) hs_nil)))))),hB,(by omega),h_b1,h_b4,h_b7⟩
 rintro fr w21 g r ⟨hB,z_w21,h_b1,h_b4,h_b7⟩;have zB:=hB.size;refine wsr ?_;refine seq_val (.agg (planC a0).toArray) r (fun R=>y_load_agg r (cs:=(planC a0)) (n:=6) rfl h_b1 ta26 rfl) rfl fun fr r=>?_;refine seq_val (I a1) r (fun R=>y_load_one r rfl h_b4 to3 rfl) rfl fun fr r=>?_
 refine seq_call r (c_plan_Plan_Next w21 a0 a1) (fun R hc=>y_call r rfl cl48 hc) rfl ?_;rintro _ w22 ⟨rfl,hb⟩
 refine ⟨_,rfl,fun fr r=>?_⟩
 have z_w22:=hb.size;have h_b1:=keep hb h_b1;have h_b4:=keep hb h_b4;have h_b7:=keep hb h_b7;obtain ⟨hB,zB⟩:=bon hb hB;refine seq_val (U x19) r (fun R=>y_move r rfl) rfl fun fr r=>?_;refine seq_val (.func (.func 84) #[] #[.pointer (some ⟨b1,0,none⟩),.pointer (some ⟨b4,0,none⟩)]) r (fun R=>y_makeFunc r rfl) rfl fun fr r=>?_
 have hF1:=fgrow hF hB b7;have f23:((fun b=>F b∨(w0.heap.size≤b∧b<w22.heap.size∧b≠b7))) b1:=(.inr ⟨by omega,by omega,by omega⟩)
 have f24:((fun b=>F b∨(w0.heap.size≤b∧b<w22.heap.size∧b≠b7))) b4:=(.inr ⟨by omega,by omega,by omega⟩)
 refine seq_call r (c_prog_Store_None (F:=(fun b=>F b∨(w0.heap.size≤b∧b<w22.heap.size∧b≠b7))) (n:=n) hF1 (D.plan_Plan_Next a0 a1) x19 ⟨84,[],[.pointer (some ⟨b1,0,none⟩),.pointer (some ⟨b4,0,none⟩)],cl84,rfl,fun m hm _ w' hs hz=>c_free_fresh_1 (fun b hb=>Nat.lt_of_lt_of_le (hF1 b hb) hz) (fun m' hm'=>ih_free_fresh m' (by omega)) a0 f23 (hs.at_ f23 h_b1) a1 f24 (hs.at_ f24 h_b4)⟩) (fun R hc=>y_call r rfl cl78 hc) rfl ?_;rintro _ w25 ⟨v26,rfl,hb,hr27⟩
 refine ⟨_,rfl,fun fr r=>?_⟩
 have z_w25:=hb.size;have h_b1:=keep hb h_b1;have h_b4:=keep hb h_b4;have h_b7:=keep hb h_b7;obtain ⟨hB,zB⟩:=bon hb hB;refine seq_upd (.cells v26.cells 70 (0,0)) r (fun R=>y_storep r hr27.shape rfl rfl h_b7 ts70 rfl) rfl fun fr w28 u29 r=>?_;have z_w28:=u29.size
 have h_b1:=u29.keep h_b1 (by omega)
 have h_b4:=u29.keep h_b4 (by omega)
 have h_b7:=u29.at_;obtain ⟨hB,zB⟩:=u29.on hB (by omega)
 refine wn ?_;refine wp_ret ?_;have hd:D.free_fresh_body r_free_fresh a0 a1=(D.prog_Store_None (D.plan_Plan_Next a0 a1) x19 (fun _=>(D.free_fresh_1 r_free_fresh a0 a1))):=by subst hx19; exact (cond_f h10).trans (rfl)
 have hs:=hr27.shape.cells;refine ret_cell r rfl rfl h_b7 (k:=6) hs.1 ta70 ?_;rw [←hs.2.2,hd];exact rfin hF hB hr27 u29 (by omega) (by omega) (by omega)

theorem c_free_fresh {n:Nat} {k:Nat} (hk:n<k):Spec_free_fresh (D.free_fresh k) n:=by
  induction n using Nat.strongRecOn generalizing k with
  | _ n ih=>
    obtain ⟨k,rfl⟩:∃ q,k=q+1:=⟨k - 1,by omega⟩
    intro F w0 hF;have h:=@b_free_fresh n F (D.free_fresh k) w0 hF (fun m hm=>ih m hm (by omega))
    exact h

def D.free_Fresh (j:Nat) (a0:Plan):T Unit:=(D.free_fresh j a0 0)

theorem c_free_Fresh {n:Nat} {F:Nat→Prop} {j:Nat} {w0:World} (hF:∀ b,F b→b<w0.heap.size) (hj:n<j)
    (a0:Plan) :
    Calls Try.prog 29 #[.agg (planC a0).toArray] w0 (RepRes Try.prog encNone n (D.free_Fresh j a0) F w0):=by
 refine enter Try.func29 rfl 5 rfl rfl fun fr r=>?_;have hB:=Below.refl w0.heap.size w0
 refine wsr ?_;refine seq_new (.cells ((planC a0)).toArray 26 (0,0)) r (fun R=>y_box r (v:=(.agg (planC a0).toArray)) rfl) rfl fun fr b1 w2 n3 r=>?_;obtain ⟨e_b1,z_w2,h_b1,hB,zB⟩:=n3.all hB
 refine seq_new (.cells (progCells false encNone.zero 0 0 0 0 .nilFunc) 70 (0,0)) r (fun R=>y_alloc tz70) rfl fun fr b4 w5 n6 r=>?_;have h_b1:=keep n6.below h_b1
 obtain ⟨e_b4,z_w5,h_b4,hB,zB⟩:=n6.all hB;refine wn ?_;refine wsr ?_;refine seq_val (.agg (planC a0).toArray) r (fun R=>y_load_agg r (cs:=(planC a0)) (n:=6) rfl h_b1 ta26 rfl) rfl fun fr r=>?_;have hF1:=fgrow hF hB b4
 refine seq_call r ((c_free_fresh (k:=j) (n:=n) (by omega)) (fun b=>F b∨(w0.heap.size≤b∧b<w5.heap.size∧b≠b4)) _ hF1 a0 0) (fun R hc=>y_call r rfl cl55 hc) rfl ?_;rintro _ w7 ⟨v8,rfl,hb,hr9⟩
 refine ⟨_,rfl,fun fr r=>?_⟩
 have z_w7:=hb.size;have h_b1:=keep hb h_b1;have h_b4:=keep hb h_b4;obtain ⟨hB,zB⟩:=bon hb hB;refine seq_upd (.cells v8.cells 70 (0,0)) r (fun R=>y_storep r hr9.shape rfl rfl h_b4 ts70 rfl) rfl fun fr w10 u11 r=>?_;have z_w10:=u11.size
 have h_b1:=u11.keep h_b1 (by omega)
 have h_b4:=u11.at_;obtain ⟨hB,zB⟩:=u11.on hB (by omega)
 refine wn ?_;refine wp_ret ?_;have hs:=hr9.shape.cells;refine ret_cell r rfl rfl h_b4 (k:=6) hs.1 ta70 ?_;rw [←hs.2.2];exact rfin hF hB hr9 u11 (by omega) (by omega) (by omega)

end Go.Proofs.Ytikjpdpgdmbdpaa
