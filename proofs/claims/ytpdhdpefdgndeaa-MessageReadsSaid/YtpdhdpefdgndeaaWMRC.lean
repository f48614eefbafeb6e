import Derived.Test.YtpdhdpefdgndeaaWMRB
set_option maxRecDepth 100000
set_option maxHeartbeats 4000000
set_option linter.unusedVariables false
set_option linter.unusedSimpArgs false
namespace Go.Proofs.Ytpdhdpefdgndeaa
open Go.RowKit Go.Proofs.YtpdhdpefdgndeaaW.PrintLast
noncomputable def m_law06_awake  : Option Bool :=
  (m_message_Query 7 (⟨(⟨#[1, 97, 0]⟩ : ByteArray), 1, 1⟩ : GQuestion)).bind fun x2 =>
  (m_message_Bytes x2).bind fun (z20 : ByteArray × Int) =>
  (mkL 1 12 0).bind fun l21 =>
  (m_message_Read (strOfNums l21)).bind fun (z39 : GMessage × Int) =>
  (mkL 1 11 0).bind fun l41 =>
  (m_message_Read (strOfNums l41)).bind fun (z59 : GMessage × Int) =>
  (mkL 1 13 0).bind fun l61 =>
  (m_message_Read (strOfNums l61)).bind fun (z79 : GMessage × Int) =>
  (m_message_Query 7 (⟨(⟨#[1, 97, 0]⟩ : ByteArray), 1, 1⟩ : GQuestion)).bind fun x81 =>
  (m_message_Reply x81 3).bind fun x96 =>
  if z20.1 = (⟨#[0, 7, 0, 0, 0, 1, 0, 0, 0, 0, 0, 0, 1, 97, 0, 0, 1, 0, 1]⟩ : ByteArray) then
    if z20.2 = 0 then
      if z39.2 = 0 then
        if z59.2 = 10 then
          if z79.2 = 10 then
            if x96.fResponse = true then
              if x96.fCode = 3 then
                (m_message_Query 7 (⟨(⟨#[1, 97, 0]⟩ : ByteArray), 1, 1⟩ : GQuestion)).bind fun x167 =>
                (m_message_Matches x167 x96).bind fun x182 =>
                some x182
              else
                some false
            else
              some false
          else
            some false
        else
          some false
      else
        some false
    else
      some false
  else
    some false
theorem c_law06_awake {w0 : World} {M : Nat → Prop} {H : List (Nat × Nat × Obj)} {R : List (Nat × Row)} {φ : World → Prop}  (r : Bool) (hm : m_law06_awake = some r) :
    Cn Try.prog 38 #[] ⟨w0, M, H, R, φ⟩ (fun x : Unit => .bool r) (fun x => True) (fun x => ⟨w0, M, H, R, φ⟩) := by
 unfold m_law06_awake at hm
 refine cn_intro (fn := Try.f38) (N := 72) Try.func38 rfl Try.ntmps38 rfl <| c_seq <| c_region <| g_v rfl r_assign <| g_nil <| d_then <| c_seq <| c_region <| g_v rfl (r_build _ rfl (bld74_0 _ _ _)) ?_
 refine g_e rfl (e_alloc 100010 Try.zeroValue74) (fun g1 _ => ?_)
 refine g_storeL (tag := 100010) rfl rfl rfl rfl Try.sizeOf74 rfl rfl <| g_nil <| d_then <| c_seq <| c_region <| g_v rfl (r_loadA (tag := 100010) rfl rfl Try.isAgg74 Try.sizeOf74 rfl rfl) ?_
 replace hm := bnd hm
 obtain ⟨x2, hx3, hm⟩ := hm
 refine g_cn ⟨w0, M, _, _, φ⟩ (fun _ h => h) Try.call51 rfl rfl (c_message_Query 7 (⟨(⟨#[1, 97, 0]⟩ : ByteArray), 1, 1⟩ : GQuestion) _ hx3) (fun ⟨A4, c5, A7, c8, A10, c11, A13, c14⟩ ⟨hc5, hc8, hc11, hc14⟩ => ?_)
 refine g_abs (fun φ16 q16' => ?_)
 have q16 : ∀ W, φ16 W → φ W := fun W h => (q16' W h).1
 have f6 := fun (W : World) (h : φ16 W) => (q16' W h).2.1
 have f9 := fun (W : World) (h : φ16 W) => (q16' W h).2.2.1
 have f12 := fun (W : World) (h : φ16 W) => (q16' W h).2.2.2.1
 have f15 := fun (W : World) (h : φ16 W) => (q16' W h).2.2.2.2
 replace hm := bnd hm
 obtain ⟨⟨x17, x18⟩, hx19, hm⟩ := hm
 refine g_cn ⟨w0, M, _, _, φ16⟩ (fun _ h => h) Try.call40 rfl rfl (c_message_Bytes x2 A4 c5 hc5 (fun W hS => f6 W hS.now) A7 c8 hc8 (fun W h => f9 W h) A10 c11 hc11 (fun W h => f12 W h) A13 c14 hc14 (fun W h => f15 W h) _ hx19) (fun _ _ => ?_)
 refine g_v rfl r_move <| g_v rfl (r_extract rfl rfl) <| g_v rfl (r_extract rfl rfl) <| g_v rfl r_assign <| g_v rfl r_assign <| g_nil <| d_then ?_
 refine c_flat [(1, .pointer (some ⟨g1, 0, none⟩)), (2, .string x17), (3, .int .i64 x18)] ⟨rfl, rfl, rfl, trivial⟩ (fun u => ?_)
 refine c_sta ⟨w0, M, (100010, g1, .cells #[.string (⟨#[1, 97, 0]⟩ : ByteArray), .int .u16 1, .int .u16 1] 74 (0, 0)) :: H, R, φ16⟩ (fun _ h => h) <| c_seq <| c_region ?_
 replace hm := bnd hm
 obtain ⟨l21, hl21, hm⟩ := hm
 refine g_e rfl (e_make (tag := 11) (enc := (fun x : Int => [Value.int .u8 x])) Try.underlying77 inf5_5 rfl rfl rfl rfl hl21) (fun g22 _ => ?_)
 refine g_v rfl (r_textE Try.underlying77 Try.underlying5 Try.underlying9 rfl (fun W hS => rowCl (tag := 11) rfl W hS)) ?_
 replace hm := bnd hm
 obtain ⟨⟨x23, x24⟩, hx25, hm⟩ := hm
 refine g_cn ⟨w0, M, _, _, φ16⟩ (fun _ h => h) Try.call43 rfl rfl (c_message_Read (strOfNums l21) _ hx25) (fun ⟨A26, c27, A29, c30, A32, c33, A35, c36⟩ ⟨hc27, hc30, hc33, hc36⟩ => ?_)
 refine g_abs (fun φ38 q38' => ?_)
 have q38 : ∀ W, φ38 W → φ16 W := fun W h => (q38' W h).1
 have f28 := fun (W : World) (h : φ38 W) => (q38' W h).2.1
 have f31 := fun (W : World) (h : φ38 W) => (q38' W h).2.2.1
 have f34 := fun (W : World) (h : φ38 W) => (q38' W h).2.2.2.1
 have f37 := fun (W : World) (h : φ38 W) => (q38' W h).2.2.2.2
 refine g_v rfl r_move <| g_v rfl (r_extract rfl rfl) <| g_v rfl (r_extract rfl rfl) ?_
 refine g_e rfl (e_alloc 100040 Try.zeroValue62) (fun g40 _ => ?_)
 refine g_storeL (tag := 100040) rfl rfl rfl rfl Try.sizeOf62 rfl rfl <| g_v rfl r_assign <| g_nil <| d_then ?_
 refine c_flat [(1, .pointer (some ⟨g1, 0, none⟩)), (2, .string x17), (3, .int .i64 x18), (5, .int .i64 x24)] ⟨rfl, rfl, rfl, rfl, trivial⟩ (fun u => ?_)
 refine c_sta ⟨w0, M, (100040, g40, .cells #[.int .u16 x23.fID, .bool x23.fResponse, .bool x23.fAuthoritative, .bool x23.fTruncated, .bool x23.fDesired, .bool x23.fAvailable, .int .i64 x23.fOpcode, .int .i64 x23.fCode, .slice A26 x23.fQuestions.length c27, .slice A29 x23.fAnswers.length c30, .slice A32 x23.fAuthorities.length c33, .slice A35 x23.fExtras.length c36] 62 (0, 0)) :: (100010, g1, .cells #[.string (⟨#[1, 97, 0]⟩ : ByteArray), .int .u16 1, .int .u16 1] 74 (0, 0)) :: H, (11, ⟨.slice (some ⟨g22, 0, none⟩) l21.length l21.length, 5, 1, l21.length, l21.flatMap (fun x : Int => [Value.int .u8 x])⟩) :: R, φ38⟩ (fun _ h => h) <| c_seq <| c_region ?_
 replace hm := bnd hm
 obtain ⟨l41, hl41, hm⟩ := hm
 refine g_e rfl (e_make (tag := 12) (enc := (fun x : Int => [Value.int .u8 x])) Try.underlying77 inf5_5 rfl rfl rfl rfl hl41) (fun g42 _ => ?_)
 refine g_v rfl (r_textE Try.underlying77 Try.underlying5 Try.underlying9 rfl (fun W hS => rowCl (tag := 12) rfl W hS)) ?_
 replace hm := bnd hm
 obtain ⟨⟨x43, x44⟩, hx45, hm⟩ := hm
 refine g_cn ⟨w0, M, _, _, φ38⟩ (fun _ h => h) Try.call43 rfl rfl (c_message_Read (strOfNums l41) _ hx45) (fun ⟨A46, c47, A49, c50, A52, c53, A55, c56⟩ ⟨hc47, hc50, hc53, hc56⟩ => ?_)
 refine g_abs (fun φ58 q58' => ?_)
 have q58 : ∀ W, φ58 W → φ38 W := fun W h => (q58' W h).1
 have f48 := fun (W : World) (h : φ58 W) => (q58' W h).2.1
 have f51 := fun (W : World) (h : φ58 W) => (q58' W h).2.2.1
 have f54 := fun (W : World) (h : φ58 W) => (q58' W h).2.2.2.1
 have f57 := fun (W : World) (h : φ58 W) => (q58' W h).2.2.2.2
 refine g_v rfl r_move <| g_v rfl (r_extract rfl rfl) <| g_v rfl (r_extract rfl rfl) ?_
 refine g_e rfl (e_alloc 100060 Try.zeroValue62) (fun g60 _ => ?_)
 refine g_storeL (tag := 100060) rfl rfl rfl rfl Try.sizeOf62 rfl rfl <| g_v rfl r_assign <| g_nil <| d_then ?_
 refine c_flat [(1, .pointer (some ⟨g1, 0, none⟩)), (2, .string x17), (3, .int .i64 x18), (5, .int .i64 x24), (7, .int .i64 x44)] ⟨rfl, rfl, rfl, rfl, rfl, trivial⟩ (fun u => ?_)
 refine c_sta ⟨w0, M, (100060, g60, .cells #[.int .u16 x43.fID, .bool x43.fResponse, .bool x43.fAuthoritative, .bool x43.fTruncated, .bool x43.fDesired, .bool x43.fAvailable, .int .i64 x43.fOpcode, .int .i64 x43.fCode, .slice A46 x43.fQuestions.length c47, .slice A49 x43.fAnswers.length c50, .slice A52 x43.fAuthorities.length c53, .slice A55 x43.fExtras.length c56] 62 (0, 0)) :: (100040, g40, .cells #[.int .u16 x23.fID, .bool x23.fResponse, .bool x23.fAuthoritative, .bool x23.fTruncated, .bool x23.fDesired, .bool x23.fAvailable, .int .i64 x23.fOpcode, .int .i64 x23.fCode, .slice A26 x23.fQuestions.length c27, .slice A29 x23.fAnswers.length c30, .slice A32 x23.fAuthorities.length c33, .slice A35 x23.fExtras.length c36] 62 (0, 0)) :: (100010, g1, .cells #[.string (⟨#[1, 97, 0]⟩ : ByteArray), .int .u16 1, .int .u16 1] 74 (0, 0)) :: H, (12, ⟨.slice (some ⟨g42, 0, none⟩) l41.length l41.length, 5, 1, l41.length, l41.flatMap (fun x : Int => [Value.int .u8 x])⟩) :: (11, ⟨.slice (some ⟨g22, 0, none⟩) l21.length l21.length, 5, 1, l21.length, l21.flatMap (fun x : Int => [Value.int .u8 x])⟩) :: R, φ58⟩ (fun _ h => h) <| c_seq <| c_region ?_
 replace hm := bnd hm
 obtain ⟨l61, hl61, hm⟩ := hm
 refine g_e rfl (e_make (tag := 13) (enc := (fun x : Int => [Value.int .u8 x])) Try.underlying77 inf5_5 rfl rfl rfl rfl hl61) (fun g62 _ => ?_)
 refine g_v rfl (r_textE Try.underlying77 Try.underlying5 Try.underlying9 rfl (fun W hS => rowCl (tag := 13) rfl W hS)) ?_
 replace hm := bnd hm
 obtain ⟨⟨x63, x64⟩, hx65, hm⟩ := hm
 refine g_cn ⟨w0, M, _, _, φ58⟩ (fun _ h => h) Try.call43 rfl rfl (c_message_Read (strOfNums l61) _ hx65) (fun ⟨A66, c67, A69, c70, A72, c73, A75, c76⟩ ⟨hc67, hc70, hc73, hc76⟩ => ?_)
 refine g_abs (fun φ78 q78' => ?_)
 have q78 : ∀ W, φ78 W → φ58 W := fun W h => (q78' W h).1
 have f68 := fun (W : World) (h : φ78 W) => (q78' W h).2.1
 have f71 := fun (W : World) (h : φ78 W) => (q78' W h).2.2.1
 have f74 := fun (W : World) (h : φ78 W) => (q78' W h).2.2.2.1
 have f77 := fun (W : World) (h : φ78 W) => (q78' W h).2.2.2.2
 refine g_v rfl r_move <| g_v rfl (r_extract rfl rfl) <| g_v rfl (r_extract rfl rfl) ?_
 refine g_e rfl (e_alloc 100080 Try.zeroValue62) (fun g80 _ => ?_)
 refine g_storeL (tag := 100080) rfl rfl rfl rfl Try.sizeOf62 rfl rfl <| g_v rfl r_assign <| g_nil <| d_then ?_
 refine c_flat [(1, .pointer (some ⟨g1, 0, none⟩)), (2, .string x17), (3, .int .i64 x18), (5, .int .i64 x24), (7, .int .i64 x44), (9, .int .i64 x64)] ⟨rfl, rfl, rfl, rfl, rfl, rfl, trivial⟩ (fun u => ?_)
 refine c_sta ⟨w0, M, (100080, g80, .cells #[.int .u16 x63.fID, .bool x63.fResponse, .bool x63.fAuthoritative, .bool x63.fTruncated, .bool x63.fDesired, .bool x63.fAvailable, .int .i64 x63.fOpcode, .int .i64 x63.fCode, .slice A66 x63.fQuestions.length c67, .slice A69 x63.fAnswers.length c70, .slice A72 x63.fAuthorities.length c73, .slice A75 x63.fExtras.length c76] 62 (0, 0)) :: (100060, g60, .cells #[.int .u16 x43.fID, .bool x43.fResponse, .bool x43.fAuthoritative, .bool x43.fTruncated, .bool x43.fDesired, .bool x43.fAvailable, .int .i64 x43.fOpcode, .int .i64 x43.fCode, .slice A46 x43.fQuestions.length c47, .slice A49 x43.fAnswers.length c50, .slice A52 x43.fAuthorities.length c53, .slice A55 x43.fExtras.length c56] 62 (0, 0)) :: (100040, g40, .cells #[.int .u16 x23.fID, .bool x23.fResponse, .bool x23.fAuthoritative, .bool x23.fTruncated, .bool x23.fDesired, .bool x23.fAvailable, .int .i64 x23.fOpcode, .int .i64 x23.fCode, .slice A26 x23.fQuestions.length c27, .slice A29 x23.fAnswers.length c30, .slice A32 x23.fAuthorities.length c33, .slice A35 x23.fExtras.length c36] 62 (0, 0)) :: (100010, g1, .cells #[.string (⟨#[1, 97, 0]⟩ : ByteArray), .int .u16 1, .int .u16 1] 74 (0, 0)) :: H, (13, ⟨.slice (some ⟨g62, 0, none⟩) l61.length l61.length, 5, 1, l61.length, l61.flatMap (fun x : Int => [Value.int .u8 x])⟩) :: (12, ⟨.slice (some ⟨g42, 0, none⟩) l41.length l41.length, 5, 1, l41.length, l41.flatMap (fun x : Int => [Value.int .u8 x])⟩) :: (11, ⟨.slice (some ⟨g22, 0, none⟩) l21.length l21.length, 5, 1, l21.length, l21.flatMap (fun x : Int => [Value.int .u8 x])⟩) :: R, φ78⟩ (fun _ h => h) <| c_seq <| c_region <| g_v rfl (r_loadA (tag := 100010) rfl rfl Try.isAgg74 Try.sizeOf74 rfl rfl) ?_
 replace hm := bnd hm
 obtain ⟨x81, hx82, hm⟩ := hm
 refine g_cn ⟨w0, M, _, _, φ78⟩ (fun _ h => h) Try.call51 rfl rfl (c_message_Query 7 (⟨(⟨#[1, 97, 0]⟩ : ByteArray), 1, 1⟩ : GQuestion) _ hx82) (fun ⟨A83, c84, A86, c87, A89, c90, A92, c93⟩ ⟨hc84, hc87, hc90, hc93⟩ => ?_)
 refine g_abs (fun φ95 q95' => ?_)
 have q95 : ∀ W, φ95 W → φ78 W := fun W h => (q95' W h).1
 have f85 := fun (W : World) (h : φ95 W) => (q95' W h).2.1
 have f88 := fun (W : World) (h : φ95 W) => (q95' W h).2.2.1
 have f91 := fun (W : World) (h : φ95 W) => (q95' W h).2.2.2.1
 have f94 := fun (W : World) (h : φ95 W) => (q95' W h).2.2.2.2
 replace hm := bnd hm
 obtain ⟨x96, hx97, hm⟩ := hm
 refine g_cn ⟨w0, M, _, _, φ95⟩ (fun _ h => h) Try.call48 rfl rfl (c_message_Reply x81 A83 c84 hc84 (fun W hS => f85 W hS.now) A86 c87 hc87 (fun W hS => f88 W hS.now) A89 c90 hc90 (fun W hS => f91 W hS.now) A92 c93 hc93 (fun W hS => f94 W hS.now) 3 _ hx97) (fun ⟨A98, c99, A101, c102, A104, c105, A107, c108⟩ ⟨hc99, hc102, hc105, hc108⟩ => ?_)
 refine g_abs (fun φ110 q110' => ?_)
 have q110 : ∀ W, φ110 W → φ95 W := fun W h => (q110' W h).1
 have f100 := fun (W : World) (h : φ110 W) => (q110' W h).2.1
 have f103 := fun (W : World) (h : φ110 W) => (q110' W h).2.2.1
 have f106 := fun (W : World) (h : φ110 W) => (q110' W h).2.2.2.1
 have f109 := fun (W : World) (h : φ110 W) => (q110' W h).2.2.2.2
 refine g_e rfl (e_alloc 100100 Try.zeroValue62) (fun g111 _ => ?_)
 refine g_storeL (tag := 100100) rfl rfl rfl rfl Try.sizeOf62 rfl rfl <| g_nil <| d_then <| c_seq <| ga_start (n := 34) ⟨w0, M, (100100, g111, .cells #[.int .u16 x96.fID, .bool x96.fResponse, .bool x96.fAuthoritative, .bool x96.fTruncated, .bool x96.fDesired, .bool x96.fAvailable, .int .i64 x96.fOpcode, .int .i64 x96.fCode, .slice A98 x96.fQuestions.length c99, .slice A101 x96.fAnswers.length c102, .slice A104 x96.fAuthorities.length c105, .slice A107 x96.fExtras.length c108] 62 (0, 0)) :: (100080, g80, .cells #[.int .u16 x63.fID, .bool x63.fResponse, .bool x63.fAuthoritative, .bool x63.fTruncated, .bool x63.fDesired, .bool x63.fAvailable, .int .i64 x63.fOpcode, .int .i64 x63.fCode, .slice A66 x63.fQuestions.length c67, .slice A69 x63.fAnswers.length c70, .slice A72 x63.fAuthorities.length c73, .slice A75 x63.fExtras.length c76] 62 (0, 0)) :: (100060, g60, .cells #[.int .u16 x43.fID, .bool x43.fResponse, .bool x43.fAuthoritative, .bool x43.fTruncated, .bool x43.fDesired, .bool x43.fAvailable, .int .i64 x43.fOpcode, .int .i64 x43.fCode, .slice A46 x43.fQuestions.length c47, .slice A49 x43.fAnswers.length c50, .slice A52 x43.fAuthorities.length c53, .slice A55 x43.fExtras.length c56] 62 (0, 0)) :: (100040, g40, .cells #[.int .u16 x23.fID, .bool x23.fResponse, .bool x23.fAuthoritative, .bool x23.fTruncated, .bool x23.fDesired, .bool x23.fAvailable, .int .i64 x23.fOpcode, .int .i64 x23.fCode, .slice A26 x23.fQuestions.length c27, .slice A29 x23.fAnswers.length c30, .slice A32 x23.fAuthorities.length c33, .slice A35 x23.fExtras.length c36] 62 (0, 0)) :: (100010, g1, .cells #[.string (⟨#[1, 97, 0]⟩ : ByteArray), .int .u16 1, .int .u16 1] 74 (0, 0)) :: H, (13, ⟨.slice (some ⟨g62, 0, none⟩) l61.length l61.length, 5, 1, l61.length, l61.flatMap (fun x : Int => [Value.int .u8 x])⟩) :: (12, ⟨.slice (some ⟨g42, 0, none⟩) l41.length l41.length, 5, 1, l41.length, l41.flatMap (fun x : Int => [Value.int .u8 x])⟩) :: (11, ⟨.slice (some ⟨g22, 0, none⟩) l21.length l21.length, 5, 1, l21.length, l21.flatMap (fun x : Int => [Value.int .u8 x])⟩) :: R, φ110⟩ [] #[false, false, false, false, false, false, false, false, false, false, false, false, false, false, false, false, false, false, false, false, false, false, false, false, false, false, false, false, false, false, false, false, false, false] (fun W h => h.phi (fun W hφ => hφ)) mixed rfl rfl <| ga_r (i := 0) (bz 34 1) rfl (by kernel_rfl) (by decide) rfl (r_move) <| ga_r (i := 1) (bz 34 3) rfl (by kernel_rfl) (by decide) rfl (r_eqlT rfl rfl) <| ga_r (i := 2) (bz 34 7) rfl (by kernel_rfl) (by decide) rfl (r_move) ?_
 refine ga_if (t := 41) rfl (fun h160 => ?_) (fun h160 => ?_)
 ·
  replace hm := ite_t hm (of_decide_eq_true h160)
  refine ga_rG (i := 3) (bz 34 15) rfl (by kernel_rfl) (by decide) rfl rfl rfl rfl rfl h160 (r_move) <| ga_rG (i := 4) (bz 34 31) rfl (by kernel_rfl) (by decide) rfl rfl rfl rfl rfl h160 (r_eql rfl rfl) <| ga_r (i := 5) (bz 34 63) rfl (by kernel_rfl) (by decide) rfl (r_pick1 rfl h160) <| ga_r (i := 6) (bz 34 127) rfl (by kernel_rfl) (by decide) rfl (r_move) ?_
  refine ga_if (t := 45) rfl (fun h161 => ?_) (fun h161 => ?_)
  ·
   replace hm := ite_t hm (of_decide_eq_true h161)
   refine ga_rG (i := 7) (bz 34 255) rfl (by kernel_rfl) (by decide) rfl rfl rfl rfl rfl h161 (r_move) <| ga_rG (i := 8) (bz 34 511) rfl (by kernel_rfl) (by decide) rfl rfl rfl rfl rfl h161 (r_eql rfl rfl) <| ga_r (i := 9) (bz 34 1023) rfl (by kernel_rfl) (by decide) rfl (r_pick1 rfl h161) <| ga_r (i := 10) (bz 34 2047) rfl (by kernel_rfl) (by decide) rfl (r_move) ?_
   refine ga_if (t := 49) rfl (fun h162 => ?_) (fun h162 => ?_)
   ·
    replace hm := ite_t hm (of_decide_eq_true h162)
    refine ga_rG (i := 11) (bz 34 4095) rfl (by kernel_rfl) (by decide) rfl rfl rfl rfl rfl h162 (r_move) <| ga_rG (i := 12) (bz 34 8191) rfl (by kernel_rfl) (by decide) rfl rfl rfl rfl rfl h162 (r_eql rfl rfl) <| ga_r (i := 13) (bz 34 16383) rfl (by kernel_rfl) (by decide) rfl (r_pick1 rfl h162) <| ga_r (i := 14) (bz 34 32767) rfl (by kernel_rfl) (by decide) rfl (r_move) ?_
    refine ga_if (t := 53) rfl (fun h163 => ?_) (fun h163 => ?_)
    ·
     replace hm := ite_t hm (of_decide_eq_true h163)
     refine ga_rG (i := 15) (bz 34 65535) rfl (by kernel_rfl) (by decide) rfl rfl rfl rfl rfl h163 (r_move) <| ga_rG (i := 16) (bz 34 131071) rfl (by kernel_rfl) (by decide) rfl rfl rfl rfl rfl h163 (r_eql rfl rfl) <| ga_r (i := 17) (bz 34 262143) rfl (by kernel_rfl) (by decide) rfl (r_pick1 rfl h163) <| ga_r (i := 18) (bz 34 524287) rfl (by kernel_rfl) (by decide) rfl (r_move) ?_
     refine ga_if (t := 57) rfl (fun h164 => ?_) (fun h164 => ?_)
     ·
      replace hm := ite_t hm (of_decide_eq_true h164)
      refine ga_rG (i := 19) (bz 34 1048575) rfl (by kernel_rfl) (by decide) rfl rfl rfl rfl rfl h164 (r_field (n := 1) Try.underlying62 rfl Try.sizeOf4 rfl rfl) <| ga_rG (i := 20) (bz 34 2097151) rfl (by kernel_rfl) (by decide) rfl rfl rfl rfl rfl h164 (r_load (tag := 100100) rfl rfl rfl Try.isAgg4) <| ga_r (i := 21) (bz 34 4194303) rfl (by kernel_rfl) (by decide) rfl (r_pick1 rfl h164) <| ga_r (i := 22) (bz 34 8388607) rfl (by kernel_rfl) (by decide) rfl (r_move) ?_
      refine ga_if (t := 61) rfl (fun h165 => ?_) (fun h165 => ?_)
      ·
       replace hm := ite_t hm h165
       refine ga_rG (i := 23) (bz 34 16777215) rfl (by kernel_rfl) (by decide) rfl rfl rfl rfl rfl h165 (r_field (n := 7) Try.underlying62 rfl Try.sizeOf3 rfl rfl) <| ga_rG (i := 24) (bz 34 33554431) rfl (by kernel_rfl) (by decide) rfl rfl rfl rfl rfl h165 (r_load (tag := 100100) rfl rfl rfl Try.isAgg3) <| ga_rG (i := 25) (bz 34 67108863) rfl (by kernel_rfl) (by decide) rfl rfl rfl rfl rfl h165 (r_eql rfl rfl) <| ga_r (i := 26) (bz 34 134217727) rfl (by kernel_rfl) (by decide) rfl (r_pick1 rfl h165) <| ga_r (i := 27) (bz 34 268435455) rfl (by kernel_rfl) (by decide) rfl (r_move) ?_
       refine ga_if (t := 66) rfl (fun h166 => ?_) (fun h166 => ?_)
       ·
        replace hm := ite_t hm (of_decide_eq_true h166)
        refine ga_do (i := 28) (bz 34 536870911) rfl (by kernel_rfl) (fun _ _ _ _ h => h) rfl rfl rfl rfl rfl h166 (r_loadA (tag := 100010) rfl rfl Try.isAgg74 Try.sizeOf74 rfl rfl) <| ga_do (i := 30) (bz 34 1610612735) rfl (by kernel_rfl) (fun _ _ _ _ h => h) rfl rfl rfl rfl rfl h166 (r_loadA (tag := 100100) rfl rfl Try.isAgg62 Try.sizeOf62 rfl rfl) ?_
        replace hm := bnd hm
        obtain ⟨x167, hx168, hm⟩ := hm
        refine ga_cnG (first := #[]) (i := 29) (bz 34 2147483647) rfl (by kernel_rfl) (by decide) rfl rfl rfl rfl h166  ⟨w0, M, _, _, φ110⟩ (fun _ h => h) Try.call51 rfl rfl rfl (c_message_Query 7 (⟨(⟨#[1, 97, 0]⟩ : ByteArray), 1, 1⟩ : GQuestion) _ hx168) (fun ⟨A169, c170, A172, c173, A175, c176, A178, c179⟩ W ⟨hc170, hc173, hc176, hc179⟩ h => (h.phi (fun _ hh => hh.1)).phi (fun W hφ => hφ)) (fun ⟨A169, c170, A172, c173, A175, c176, A178, c179⟩ ⟨hc170, hc173, hc176, hc179⟩ => ?_)
        refine ga_abs (fun φ181 q181' => ?_)
        have q181 : ∀ W, φ181 W → φ110 W := fun W h => (q181' W h).1
        have f171 := fun (W : World) (h : φ181 W) => (q181' W h).2.1
        have f174 := fun (W : World) (h : φ181 W) => (q181' W h).2.2.1
        have f177 := fun (W : World) (h : φ181 W) => (q181' W h).2.2.2.1
        have f180 := fun (W : World) (h : φ181 W) => (q181' W h).2.2.2.2
        replace hm := bnd hm
        obtain ⟨x182, hx183, hm⟩ := hm
        refine ga_cnG (first := #[]) (i := 31) (bz 34 4294967295) rfl (by kernel_rfl) (by decide) rfl rfl rfl rfl h166  ⟨w0, M, _, _, φ181⟩ (fun _ h => h) Try.call49 rfl rfl rfl (c_message_Matches x167 A169 c170 hc170 (fun W hS => f171 W hS.now) A172 c173 hc173 (fun W hS => f174 W hS.now) A175 c176 hc176 (fun W hS => f177 W hS.now) A178 c179 hc179 (fun W hS => f180 W hS.now) x96 A98 c99 hc99 (fun W hS => f100 W (q181 _ hS.now)) A101 c102 hc102 (fun W hS => f103 W (q181 _ hS.now)) A104 c105 hc105 (fun W hS => f106 W (q181 _ hS.now)) A107 c108 hc108 (fun W hS => f109 W (q181 _ hS.now)) _ hx183) (fun _ W _ h => h.phi (fun W hφ => (q181 _ hφ))) (fun _ _ => ?_)
        refine ga_r (i := 32) (bz 34 8589934591) rfl (by kernel_rfl) (by decide) rfl (r_pick1 rfl h166) <| ga_r (i := 33) (bz 34 17179869183) rfl (by kernel_rfl) (by decide) rfl (r_assign) <| ga_done (by kernel_rfl) <| d_then ?_
        refine c_flat [(0, .bool x182)] ⟨rfl, trivial⟩ (fun u => ?_)
        refine c_sta ⟨w0, M, (100100, g111, .cells #[.int .u16 x96.fID, .bool x96.fResponse, .bool x96.fAuthoritative, .bool x96.fTruncated, .bool x96.fDesired, .bool x96.fAvailable, .int .i64 x96.fOpcode, .int .i64 x96.fCode, .slice A98 x96.fQuestions.length c99, .slice A101 x96.fAnswers.length c102, .slice A104 x96.fAuthorities.length c105, .slice A107 x96.fExtras.length c108] 62 (0, 0)) :: (100080, g80, .cells #[.int .u16 x63.fID, .bool x63.fResponse, .bool x63.fAuthoritative, .bool x63.fTruncated, .bool x63.fDesired, .bool x63.fAvailable, .int .i64 x63.fOpcode, .int .i64 x63.fCode, .slice A66 x63.fQuestions.length c67, .slice A69 x63.fAnswers.length c70, .slice A72 x63.fAuthorities.length c73, .slice A75 x63.fExtras.length c76] 62 (0, 0)) :: (100060, g60, .cells #[.int .u16 x43.fID, .bool x43.fResponse, .bool x43.fAuthoritative, .bool x43.fTruncated, .bool x43.fDesired, .bool x43.fAvailable, .int .i64 x43.fOpcode, .int .i64 x43.fCode, .slice A46 x43.fQuestions.length c47, .slice A49 x43.fAnswers.length c50, .slice A52 x43.fAuthorities.length c53, .slice A55 x43.fExtras.length c56] 62 (0, 0)) :: (100040, g40, .cells #[.int .u16 x23.fID, .bool x23.fResponse, .bool x23.fAuthoritative, .bool x23.fTruncated, .bool x23.fDesired, .bool x23.fAvailable, .int .i64 x23.fOpcode, .int .i64 x23.fCode, .slice A26 x23.fQuestions.length c27, .slice A29 x23.fAnswers.length c30, .slice A32 x23.fAuthorities.length c33, .slice A35 x23.fExtras.length c36] 62 (0, 0)) :: (100010, g1, .cells #[.string (⟨#[1, 97, 0]⟩ : ByteArray), .int .u16 1, .int .u16 1] 74 (0, 0)) :: H, (13, ⟨.slice (some ⟨g62, 0, none⟩) l61.length l61.length, 5, 1, l61.length, l61.flatMap (fun x : Int => [Value.int .u8 x])⟩) :: (12, ⟨.slice (some ⟨g42, 0, none⟩) l41.length l41.length, 5, 1, l41.length, l41.flatMap (fun x : Int => [Value.int .u8 x])⟩) :: (11, ⟨.slice (some ⟨g22, 0, none⟩) l21.length l21.length, 5, 1, l21.length, l21.flatMap (fun x : Int => [Value.int .u8 x])⟩) :: R, φ181⟩ (fun _ h => h) <| c_ret ?_
        replace hm := Option.some.inj hm
        subst hm
        refine d_retC () Try.results38 ?_ trivial (fun W h => ok_pre (H1 := [_, _, _, _, _]) (R1 := [_, _, _]) h (fun W hφ => (q16 _ (q38 _ (q58 _ (q78 _ (q95 _ (q110 _ (q181 _ hφ))))))))) (.inr rfl)
        refine res_tmp <| res_nil ?_
        exact rfl
       ·
        replace hm := ite_f hm (of_decide_eq_false h166)
        refine ga_no (i := 28) (bz 34 536870911) rfl (by kernel_rfl) (fun _ _ _ _ h => h) rfl rfl rfl rfl rfl h166 <| ga_no (i := 29) (bz 34 1073741823) rfl (by kernel_rfl) (fun _ _ _ _ h => h) rfl rfl rfl rfl rfl h166 <| ga_no (i := 30) (bz 34 2147483647) rfl (by kernel_rfl) (fun _ _ _ _ h => h) rfl rfl rfl rfl rfl h166 <| ga_no (i := 31) (bz 34 4294967295) rfl (by kernel_rfl) (fun _ _ _ _ h => h) rfl rfl rfl rfl rfl h166 <| ga_r (i := 32) (bz 34 8589934591) rfl (by kernel_rfl) (by decide) rfl (r_pick0 rfl h166) <| ga_r (i := 33) (bz 34 17179869183) rfl (by kernel_rfl) (by decide) rfl (r_assign) <| ga_done (by kernel_rfl) <| d_then ?_
        refine c_flat [(0, .bool false)] ⟨rfl, trivial⟩ (fun u => ?_)
        refine c_sta ⟨w0, M, (100100, g111, .cells #[.int .u16 x96.fID, .bool x96.fResponse, .bool x96.fAuthoritative, .bool x96.fTruncated, .bool x96.fDesired, .bool x96.fAvailable, .int .i64 x96.fOpcode, .int .i64 x96.fCode, .slice A98 x96.fQuestions.length c99, .slice A101 x96.fAnswers.length c102, .slice A104 x96.fAuthorities.length c105, .slice A107 x96.fExtras.length c108] 62 (0, 0)) :: (100080, g80, .cells #[.int .u16 x63.fID, .bool x63.fResponse, .bool x63.fAuthoritative, .bool x63.fTruncated, .bool x63.fDesired, .bool x63.fAvailable, .int .i64 x63.fOpcode, .int .i64 x63.fCode, .slice A66 x63.fQuestions.length c67, .slice A69 x63.fAnswers.length c70, .slice A72 x63.fAuthorities.length c73, .slice A75 x63.fExtras.length c76] 62 (0, 0)) :: (100060, g60, .cells #[.int .u16 x43.fID, .bool x43.fResponse, .bool x43.fAuthoritative, .bool x43.fTruncated, .bool x43.fDesired, .bool x43.fAvailable, .int .i64 x43.fOpcode, .int .i64 x43.fCode, .slice A46 x43.fQuestions.length c47, .slice A49 x43.fAnswers.length c50, .slice A52 x43.fAuthorities.length c53, .slice A55 x43.fExtras.length c56] 62 (0, 0)) :: (100040, g40, .cells #[.int .u16 x23.fID, .bool x23.fResponse, .bool x23.fAuthoritative, .bool x23.fTruncated, .bool x23.fDesired, .bool x23.fAvailable, .int .i64 x23.fOpcode, .int .i64 x23.fCode, .slice A26 x23.fQuestions.length c27, .slice A29 x23.fAnswers.length c30, .slice A32 x23.fAuthorities.length c33, .slice A35 x23.fExtras.length c36] 62 (0, 0)) :: (100010, g1, .cells #[.string (⟨#[1, 97, 0]⟩ : ByteArray), .int .u16 1, .int .u16 1] 74 (0, 0)) :: H, (13, ⟨.slice (some ⟨g62, 0, none⟩) l61.length l61.length, 5, 1, l61.length, l61.flatMap (fun x : Int => [Value.int .u8 x])⟩) :: (12, ⟨.slice (some ⟨g42, 0, none⟩) l41.length l41.length, 5, 1, l41.length, l41.flatMap (fun x : Int => [Value.int .u8 x])⟩) :: (11, ⟨.slice (some ⟨g22, 0, none⟩) l21.length l21.length, 5, 1, l21.length, l21.flatMap (fun x : Int => [Value.int .u8 x])⟩) :: R, φ110⟩ (fun _ h => h) <| c_ret ?_
        replace hm := Option.some.inj hm
        subst hm
        refine d_retC () Try.results38 ?_ trivial (fun W h => ok_pre (H1 := [_, _, _, _, _]) (R1 := [_, _, _]) h (fun W hφ => (q16 _ (q38 _ (q58 _ (q78 _ (q95 _ (q110 _ hφ)))))))) (.inr rfl)
        refine res_tmp <| res_nil ?_
        exact rfl
      ·
       replace hm := ite_f hm (bool_nt h165)
       refine ga_no (i := 23) (bz 34 16777215) rfl (by kernel_rfl) (fun _ _ _ _ h => h) rfl rfl rfl rfl rfl h165 <| ga_no (i := 24) (bz 34 33554431) rfl (by kernel_rfl) (fun _ _ _ _ h => h) rfl rfl rfl rfl rfl h165 <| ga_no (i := 25) (bz 34 67108863) rfl (by kernel_rfl) (fun _ _ _ _ h => h) rfl rfl rfl rfl rfl h165 <| ga_r (i := 26) (bz 34 134217727) rfl (by kernel_rfl) (by decide) rfl (r_pick0 rfl h165) <| ga_r (i := 27) (bz 34 268435455) rfl (by kernel_rfl) (by decide) rfl (r_move) <| ga_no (i := 28) (bz 34 536870911) rfl (by kernel_rfl) (fun _ _ _ _ h => h) rfl rfl rfl rfl rfl rfl <| ga_no (i := 29) (bz 34 1073741823) rfl (by kernel_rfl) (fun _ _ _ _ h => h) rfl rfl rfl rfl rfl rfl <| ga_no (i := 30) (bz 34 2147483647) rfl (by kernel_rfl) (fun _ _ _ _ h => h) rfl rfl rfl rfl rfl rfl <| ga_no (i := 31) (bz 34 4294967295) rfl (by kernel_rfl) (fun _ _ _ _ h => h) rfl rfl rfl rfl rfl rfl <| ga_r (i := 32) (bz 34 8589934591) rfl (by kernel_rfl) (by decide) rfl (r_pick0 rfl rfl) ?_
       refine ga_r (i := 33) (bz 34 17179869183) rfl (by kernel_rfl) (by decide) rfl (r_assign) <| ga_done (by kernel_rfl) <| d_then ?_
       refine c_flat [(0, .bool false)] ⟨rfl, trivial⟩ (fun u => ?_)
       refine c_sta ⟨w0, M, (100100, g111, .cells #[.int .u16 x96.fID, .bool x96.fResponse, .bool x96.fAuthoritative, .bool x96.fTruncated, .bool x96.fDesired, .bool x96.fAvailable, .int .i64 x96.fOpcode, .int .i64 x96.fCode, .slice A98 x96.fQuestions.length c99, .slice A101 x96.fAnswers.length c102, .slice A104 x96.fAuthorities.length c105, .slice A107 x96.fExtras.length c108] 62 (0, 0)) :: (100080, g80, .cells #[.int .u16 x63.fID, .bool x63.fResponse, .bool x63.fAuthoritative, .bool x63.fTruncated, .bool x63.fDesired, .bool x63.fAvailable, .int .i64 x63.fOpcode, .int .i64 x63.fCode, .slice A66 x63.fQuestions.length c67, .slice A69 x63.fAnswers.length c70, .slice A72 x63.fAuthorities.length c73, .slice A75 x63.fExtras.length c76] 62 (0, 0)) :: (100060, g60, .cells #[.int .u16 x43.fID, .bool x43.fResponse, .bool x43.fAuthoritative, .bool x43.fTruncated, .bool x43.fDesired, .bool x43.fAvailable, .int .i64 x43.fOpcode, .int .i64 x43.fCode, .slice A46 x43.fQuestions.length c47, .slice A49 x43.fAnswers.length c50, .slice A52 x43.fAuthorities.length c53, .slice A55 x43.fExtras.length c56] 62 (0, 0)) :: (100040, g40, .cells #[.int .u16 x23.fID, .bool x23.fResponse, .bool x23.fAuthoritative, .bool x23.fTruncated, .bool x23.fDesired, .bool x23.fAvailable, .int .i64 x23.fOpcode, .int .i64 x23.fCode, .slice A26 x23.fQuestions.length c27, .slice A29 x23.fAnswers.length c30, .slice A32 x23.fAuthorities.length c33, .slice A35 x23.fExtras.length c36] 62 (0, 0)) :: (100010, g1, .cells #[.string (⟨#[1, 97, 0]⟩ : ByteArray), .int .u16 1, .int .u16 1] 74 (0, 0)) :: H, (13, ⟨.slice (some ⟨g62, 0, none⟩) l61.length l61.length, 5, 1, l61.length, l61.flatMap (fun x : Int => [Value.int .u8 x])⟩) :: (12, ⟨.slice (some ⟨g42, 0, none⟩) l41.length l41.length, 5, 1, l41.length, l41.flatMap (fun x : Int => [Value.int .u8 x])⟩) :: (11, ⟨.slice (some ⟨g22, 0, none⟩) l21.length l21.length, 5, 1, l21.length, l21.flatMap (fun x : Int => [Value.int .u8 x])⟩) :: R, φ110⟩ (fun _ h => h) <| c_ret ?_
       replace hm := Option.some.inj hm
       subst hm
       refine d_retC () Try.results38 ?_ trivial (fun W h => ok_pre (H1 := [_, _, _, _, _]) (R1 := [_, _, _]) h (fun W hφ => (q16 _ (q38 _ (q58 _ (q78 _ (q95 _ (q110 _ hφ)))))))) (.inr rfl)
       refine res_tmp <| res_nil ?_
       exact rfl
     ·
      replace hm := ite_f hm (of_decide_eq_false h164)
      refine ga_no (i := 19) (bz 34 1048575) rfl (by kernel_rfl) (fun _ _ _ _ h => h) rfl rfl rfl rfl rfl h164 <| ga_no (i := 20) (bz 34 2097151) rfl (by kernel_rfl) (fun _ _ _ _ h => h) rfl rfl rfl rfl rfl h164 <| ga_r (i := 21) (bz 34 4194303) rfl (by kernel_rfl) (by decide) rfl (r_pick0 rfl h164) <| ga_r (i := 22) (bz 34 8388607) rfl (by kernel_rfl) (by decide) rfl (r_move) <| ga_no (i := 23) (bz 34 16777215) rfl (by kernel_rfl) (fun _ _ _ _ h => h) rfl rfl rfl rfl rfl rfl <| ga_no (i := 24) (bz 34 33554431) rfl (by kernel_rfl) (fun _ _ _ _ h => h) rfl rfl rfl rfl rfl rfl <| ga_no (i := 25) (bz 34 67108863) rfl (by kernel_rfl) (fun _ _ _ _ h => h) rfl rfl rfl rfl rfl rfl <| ga_r (i := 26) (bz 34 134217727) rfl (by kernel_rfl) (by decide) rfl (r_pick0 rfl rfl) <| ga_r (i := 27) (bz 34 268435455) rfl (by kernel_rfl) (by decide) rfl (r_move) <| ga_no (i := 28) (bz 34 536870911) rfl (by kernel_rfl) (fun _ _ _ _ h => h) rfl rfl rfl rfl rfl rfl ?_
      refine ga_no (i := 29) (bz 34 1073741823) rfl (by kernel_rfl) (fun _ _ _ _ h => h) rfl rfl rfl rfl rfl rfl <| ga_no (i := 30) (bz 34 2147483647) rfl (by kernel_rfl) (fun _ _ _ _ h => h) rfl rfl rfl rfl rfl rfl <| ga_no (i := 31) (bz 34 4294967295) rfl (by kernel_rfl) (fun _ _ _ _ h => h) rfl rfl rfl rfl rfl rfl <| ga_r (i := 32) (bz 34 8589934591) rfl (by kernel_rfl) (by decide) rfl (r_pick0 rfl rfl) <| ga_r (i := 33) (bz 34 17179869183) rfl (by kernel_rfl) (by decide) rfl (r_assign) <| ga_done (by kernel_rfl) <| d_then ?_
      refine c_flat [(0, .bool false)] ⟨rfl, trivial⟩ (fun u => ?_)
      refine c_sta ⟨w0, M, (100100, g111, .cells #[.int .u16 x96.fID, .bool x96.fResponse, .bool x96.fAuthoritative, .bool x96.fTruncated, .bool x96.fDesired, .bool x96.fAvailable, .int .i64 x96.fOpcode, .int .i64 x96.fCode, .slice A98 x96.fQuestions.length c99, .slice A101 x96.fAnswers.length c102, .slice A104 x96.fAuthorities.length c105, .slice A107 x96.fExtras.length c108] 62 (0, 0)) :: (100080, g80, .cells #[.int .u16 x63.fID, .bool x63.fResponse, .bool x63.fAuthoritative, .bool x63.fTruncated, .bool x63.fDesired, .bool x63.fAvailable, .int .i64 x63.fOpcode, .int .i64 x63.fCode, .slice A66 x63.fQuestions.length c67, .slice A69 x63.fAnswers.length c70, .slice A72 x63.fAuthorities.length c73, .slice A75 x63.fExtras.length c76] 62 (0, 0)) :: (100060, g60, .cells #[.int .u16 x43.fID, .bool x43.fResponse, .bool x43.fAuthoritative, .bool x43.fTruncated, .bool x43.fDesired, .bool x43.fAvailable, .int .i64 x43.fOpcode, .int .i64 x43.fCode, .slice A46 x43.fQuestions.length c47, .slice A49 x43.fAnswers.length c50, .slice A52 x43.fAuthorities.length c53, .slice A55 x43.fExtras.length c56] 62 (0, 0)) :: (100040, g40, .cells #[.int .u16 x23.fID, .bool x23.fResponse, .bool x23.fAuthoritative, .bool x23.fTruncated, .bool x23.fDesired, .bool x23.fAvailable, .int .i64 x23.fOpcode, .int .i64 x23.fCode, .slice A26 x23.fQuestions.length c27, .slice A29 x23.fAnswers.length c30, .slice A32 x23.fAuthorities.length c33, .slice A35 x23.fExtras.length c36] 62 (0, 0)) :: (100010, g1, .cells #[.string (⟨#[1, 97, 0]⟩ : ByteArray), .int .u16 1, .int .u16 1] 74 (0, 0)) :: H, (13, ⟨.slice (some ⟨g62, 0, none⟩) l61.length l61.length, 5, 1, l61.length, l61.flatMap (fun x : Int => [Value.int .u8 x])⟩) :: (12, ⟨.slice (some ⟨g42, 0, none⟩) l41.length l41.length, 5, 1, l41.length, l41.flatMap (fun x : Int => [Value.int .u8 x])⟩) :: (11, ⟨.slice (some ⟨g22, 0, none⟩) l21.length l21.length, 5, 1, l21.length, l21.flatMap (fun x : Int => [Value.int .u8 x])⟩) :: R, φ110⟩ (fun _ h => h) <| c_ret ?_
      replace hm := Option.some.inj hm
      subst hm
      refine d_retC () Try.results38 ?_ trivial (fun W h => ok_pre (H1 := [_, _, _, _, _]) (R1 := [_, _, _]) h (fun W hφ => (q16 _ (q38 _ (q58 _ (q78 _ (q95 _ (q110 _ hφ)))))))) (.inr rfl)
      refine res_tmp <| res_nil ?_
      exact rfl
    ·
     replace hm := ite_f hm (of_decide_eq_false h163)
     refine ga_no (i := 15) (bz 34 65535) rfl (by kernel_rfl) (fun _ _ _ _ h => h) rfl rfl rfl rfl rfl h163 <| ga_no (i := 16) (bz 34 131071) rfl (by kernel_rfl) (fun _ _ _ _ h => h) rfl rfl rfl rfl rfl h163 <| ga_r (i := 17) (bz 34 262143) rfl (by kernel_rfl) (by decide) rfl (r_pick0 rfl h163) <| ga_r (i := 18) (bz 34 524287) rfl (by kernel_rfl) (by decide) rfl (r_move) <| ga_no (i := 19) (bz 34 1048575) rfl (by kernel_rfl) (fun _ _ _ _ h => h) rfl rfl rfl rfl rfl rfl <| ga_no (i := 20) (bz 34 2097151) rfl (by kernel_rfl) (fun _ _ _ _ h => h) rfl rfl rfl rfl rfl rfl <| ga_r (i := 21) (bz 34 4194303) rfl (by kernel_rfl) (by decide) rfl (r_pick0 rfl rfl) <| ga_r (i := 22) (bz 34 8388607) rfl (by kernel_rfl) (by decide) rfl (r_move) <| ga_no (i := 23) (bz 34 16777215) rfl (by kernel_rfl) (fun _ _ _ _ h => h) rfl rfl rfl rfl rfl rfl <| ga_no (i := 24) (bz 34 33554431) rfl (by kernel_rfl) (fun _ _ _ _ h => h) rfl rfl rfl rfl rfl rfl ?_
     refine ga_no (i := 25) (bz 34 67108863) rfl (by kernel_rfl) (fun _ _ _ _ h => h) rfl rfl rfl rfl rfl rfl <| ga_r (i := 26) (bz 34 134217727) rfl (by kernel_rfl) (by decide) rfl (r_pick0 rfl rfl) <| ga_r (i := 27) (bz 34 268435455) rfl (by kernel_rfl) (by decide) rfl (r_move) <| ga_no (i := 28) (bz 34 536870911) rfl (by kernel_rfl) (fun _ _ _ _ h => h) rfl rfl rfl rfl rfl rfl <| ga_no (i := 29) (bz 34 1073741823) rfl (by kernel_rfl) (fun _ _ _ _ h => h) rfl rfl rfl rfl rfl rfl <| ga_no (i := 30) (bz 34 2147483647) rfl (by kernel_rfl) (fun _ _ _ _ h => h) rfl rfl rfl rfl rfl rfl <| ga_no (i := 31) (bz 34 4294967295) rfl (by kernel_rfl) (fun _ _ _ _ h => h) rfl rfl rfl rfl rfl rfl <| ga_r (i := 32) (bz 34 8589934591) rfl (by kernel_rfl) (by decide) rfl (r_pick0 rfl rfl) <| ga_r (i := 33) (bz 34 17179869183) rfl (by kernel_rfl) (by decide) rfl (r_assign) <| ga_done (by kernel_rfl) ?_
     refine d_then ?_
     refine c_flat [(0, .bool false)] ⟨rfl, trivial⟩ (fun u => ?_)
     refine c_sta ⟨w0, M, (100100, g111, .cells #[.int .u16 x96.fID, .bool x96.fResponse, .bool x96.fAuthoritative, .bool x96.fTruncated, .bool x96.fDesired, .bool x96.fAvailable, .int .i64 x96.fOpcode, .int .i64 x96.fCode, .slice A98 x96.fQuestions.length c99, .slice A101 x96.fAnswers.length c102, .slice A104 x96.fAuthorities.length c105, .slice A107 x96.fExtras.length c108] 62 (0, 0)) :: (100080, g80, .cells #[.int .u16 x63.fID, .bool x63.fResponse, .bool x63.fAuthoritative, .bool x63.fTruncated, .bool x63.fDesired, .bool x63.fAvailable, .int .i64 x63.fOpcode, .int .i64 x63.fCode, .slice A66 x63.fQuestions.length c67, .slice A69 x63.fAnswers.length c70, .slice A72 x63.fAuthorities.length c73, .slice A75 x63.fExtras.length c76] 62 (0, 0)) :: (100060, g60, .cells #[.int .u16 x43.fID, .bool x43.fResponse, .bool x43.fAuthoritative, .bool x43.fTruncated, .bool x43.fDesired, .bool x43.fAvailable, .int .i64 x43.fOpcode, .int .i64 x43.fCode, .slice A46 x43.fQuestions.length c47, .slice A49 x43.fAnswers.length c50, .slice A52 x43.fAuthorities.length c53, .slice A55 x43.fExtras.length c56] 62 (0, 0)) :: (100040, g40, .cells #[.int .u16 x23.fID, .bool x23.fResponse, .bool x23.fAuthoritative, .bool x23.fTruncated, .bool x23.fDesired, .bool x23.fAvailable, .int .i64 x23.fOpcode, .int .i64 x23.fCode, .slice A26 x23.fQuestions.length c27, .slice A29 x23.fAnswers.length c30, .slice A32 x23.fAuthorities.length c33, .slice A35 x23.fExtras.length c36] 62 (0, 0)) :: (100010, g1, .cells #[.string (⟨#[1, 97, 0]⟩ : ByteArray), .int .u16 1, .int .u16 1] 74 (0, 0)) :: H, (13, ⟨.slice (some ⟨g62, 0, none⟩) l61.length l61.length, 5, 1, l61.length, l61.flatMap (fun x : Int => [Value.int .u8 x])⟩) :: (12, ⟨.slice (some ⟨g42, 0, none⟩) l41.length l41.length, 5, 1, l41.length, l41.flatMap (fun x : Int => [Value.int .u8 x])⟩) :: (11, ⟨.slice (some ⟨g22, 0, none⟩) l21.length l21.length, 5, 1, l21.length, l21.flatMap (fun x : Int => [Value.int .u8 x])⟩) :: R, φ110⟩ (fun _ h => h) <| c_ret ?_
     replace hm := Option.some.inj hm
     subst hm
     refine d_retC () Try.results38 ?_ trivial (fun W h => ok_pre (H1 := [_, _, _, _, _]) (R1 := [_, _, _]) h (fun W hφ => (q16 _ (q38 _ (q58 _ (q78 _ (q95 _ (q110 _ hφ)))))))) (.inr rfl)
     refine res_tmp <| res_nil ?_
     exact rfl
   ·
    replace hm := ite_f hm (of_decide_eq_false h162)
    refine ga_no (i := 11) (bz 34 4095) rfl (by kernel_rfl) (fun _ _ _ _ h => h) rfl rfl rfl rfl rfl h162 <| ga_no (i := 12) (bz 34 8191) rfl (by kernel_rfl) (fun _ _ _ _ h => h) rfl rfl rfl rfl rfl h162 <| ga_r (i := 13) (bz 34 16383) rfl (by kernel_rfl) (by decide) rfl (r_pick0 rfl h162) <| ga_r (i := 14) (bz 34 32767) rfl (by kernel_rfl) (by decide) rfl (r_move) <| ga_no (i := 15) (bz 34 65535) rfl (by kernel_rfl) (fun _ _ _ _ h => h) rfl rfl rfl rfl rfl rfl <| ga_no (i := 16) (bz 34 131071) rfl (by kernel_rfl) (fun _ _ _ _ h => h) rfl rfl rfl rfl rfl rfl <| ga_r (i := 17) (bz 34 262143) rfl (by kernel_rfl) (by decide) rfl (r_pick0 rfl rfl) <| ga_r (i := 18) (bz 34 524287) rfl (by kernel_rfl) (by decide) rfl (r_move) <| ga_no (i := 19) (bz 34 1048575) rfl (by kernel_rfl) (fun _ _ _ _ h => h) rfl rfl rfl rfl rfl rfl <| ga_no (i := 20) (bz 34 2097151) rfl (by kernel_rfl) (fun _ _ _ _ h => h) rfl rfl rfl rfl rfl rfl ?_
    refine ga_r (i := 21) (bz 34 4194303) rfl (by kernel_rfl) (by decide) rfl (r_pick0 rfl rfl) <| ga_r (i := 22) (bz 34 8388607) rfl (by kernel_rfl) (by decide) rfl (r_move) <| ga_no (i := 23) (bz 34 16777215) rfl (by kernel_rfl) (fun _ _ _ _ h => h) rfl rfl rfl rfl rfl rfl <| ga_no (i := 24) (bz 34 33554431) rfl (by kernel_rfl) (fun _ _ _ _ h => h) rfl rfl rfl rfl rfl rfl <| ga_no (i := 25) (bz 34 67108863) rfl (by kernel_rfl) (fun _ _ _ _ h => h) rfl rfl rfl rfl rfl rfl <| ga_r (i := 26) (bz 34 134217727) rfl (by kernel_rfl) (by decide) rfl (r_pick0 rfl rfl) <| ga_r (i := 27) (bz 34 268435455) rfl (by kernel_rfl) (by decide) rfl (r_move) <| ga_no (i := 28) (bz 34 536870911) rfl (by kernel_rfl) (fun _ _ _ _ h => h) rfl rfl rfl rfl rfl rfl <| ga_no (i := 29) (bz 34 1073741823) rfl (by kernel_rfl) (fun _ _ _ _ h => h) rfl rfl rfl rfl rfl rfl <| ga_no (i := 30) (bz 34 2147483647) rfl (by kernel_rfl) (fun _ _ _ _ h => h) rfl rfl rfl rfl rfl rfl ?_
    refine ga_no (i := 31) (bz 34 4294967295) rfl (by kernel_rfl) (fun _ _ _ _ h => h) rfl rfl rfl rfl rfl rfl <| ga_r (i := 32) (bz 34 8589934591) rfl (by kernel_rfl) (by decide) rfl (r_pick0 rfl rfl) <| ga_r (i := 33) (bz 34 17179869183) rfl (by kernel_rfl) (by decide) rfl (r_assign) <| ga_done (by kernel_rfl) <| d_then ?_
    refine c_flat [(0, .bool false)] ⟨rfl, trivial⟩ (fun u => ?_)
    refine c_sta ⟨w0, M, (100100, g111, .cells #[.int .u16 x96.fID, .bool x96.fResponse, .bool x96.fAuthoritative, .bool x96.fTruncated, .bool x96.fDesired, .bool x96.fAvailable, .int .i64 x96.fOpcode, .int .i64 x96.fCode, .slice A98 x96.fQuestions.length c99, .slice A101 x96.fAnswers.length c102, .slice A104 x96.fAuthorities.length c105, .slice A107 x96.fExtras.length c108] 62 (0, 0)) :: (100080, g80, .cells #[.int .u16 x63.fID, .bool x63.fResponse, .bool x63.fAuthoritative, .bool x63.fTruncated, .bool x63.fDesired, .bool x63.fAvailable, .int .i64 x63.fOpcode, .int .i64 x63.fCode, .slice A66 x63.fQuestions.length c67, .slice A69 x63.fAnswers.length c70, .slice A72 x63.fAuthorities.length c73, .slice A75 x63.fExtras.length c76] 62 (0, 0)) :: (100060, g60, .cells #[.int .u16 x43.fID, .bool x43.fResponse, .bool x43.fAuthoritative, .bool x43.fTruncated, .bool x43.fDesired, .bool x43.fAvailable, .int .i64 x43.fOpcode, .int .i64 x43.fCode, .slice A46 x43.fQuestions.length c47, .slice A49 x43.fAnswers.length c50, .slice A52 x43.fAuthorities.length c53, .slice A55 x43.fExtras.length c56] 62 (0, 0)) :: (100040, g40, .cells #[.int .u16 x23.fID, .bool x23.fResponse, .bool x23.fAuthoritative, .bool x23.fTruncated, .bool x23.fDesired, .bool x23.fAvailable, .int .i64 x23.fOpcode, .int .i64 x23.fCode, .slice A26 x23.fQuestions.length c27, .slice A29 x23.fAnswers.length c30, .slice A32 x23.fAuthorities.length c33, .slice A35 x23.fExtras.length c36] 62 (0, 0)) :: (100010, g1, .cells #[.string (⟨#[1, 97, 0]⟩ : ByteArray), .int .u16 1, .int .u16 1] 74 (0, 0)) :: H, (13, ⟨.slice (some ⟨g62, 0, none⟩) l61.length l61.length, 5, 1, l61.length, l61.flatMap (fun x : Int => [Value.int .u8 x])⟩) :: (12, ⟨.slice (some ⟨g42, 0, none⟩) l41.length l41.length, 5, 1, l41.length, l41.flatMap (fun x : Int => [Value.int .u8 x])⟩) :: (11, ⟨.slice (some ⟨g22, 0, none⟩) l21.length l21.length, 5, 1, l21.length, l21.flatMap (fun x : Int => [Value.int .u8 x])⟩) :: R, φ110⟩ (fun _ h => h) <| c_ret ?_
    replace hm := Option.some.inj hm
    subst hm
    refine d_retC () Try.results38 ?_ trivial (fun W h => ok_pre (H1 := [_, _, _, _, _]) (R1 := [_, _, _]) h (fun W hφ => (q16 _ (q38 _ (q58 _ (q78 _ (q95 _ (q110 _ hφ)))))))) (.inr rfl)
    refine res_tmp <| res_nil ?_
    exact rfl
  ·
   replace hm := ite_f hm (of_decide_eq_false h161)
   refine ga_no (i := 7) (bz 34 255) rfl (by kernel_rfl) (fun _ _ _ _ h => h) rfl rfl rfl rfl rfl h161 <| ga_no (i := 8) (bz 34 511) rfl (by kernel_rfl) (fun _ _ _ _ h => h) rfl rfl rfl rfl rfl h161 <| ga_r (i := 9) (bz 34 1023) rfl (by kernel_rfl) (by decide) rfl (r_pick0 rfl h161) <| ga_r (i := 10) (bz 34 2047) rfl (by kernel_rfl) (by decide) rfl (r_move) <| ga_no (i := 11) (bz 34 4095) rfl (by kernel_rfl) (fun _ _ _ _ h => h) rfl rfl rfl rfl rfl rfl <| ga_no (i := 12) (bz 34 8191) rfl (by kernel_rfl) (fun _ _ _ _ h => h) rfl rfl rfl rfl rfl rfl <| ga_r (i := 13) (bz 34 16383) rfl (by kernel_rfl) (by decide) rfl (r_pick0 rfl rfl) <| ga_r (i := 14) (bz 34 32767) rfl (by kernel_rfl) (by decide) rfl (r_move) <| ga_no (i := 15) (bz 34 65535) rfl (by kernel_rfl) (fun _ _ _ _ h => h) rfl rfl rfl rfl rfl rfl <| ga_no (i := 16) (bz 34 131071) rfl (by kernel_rfl) (fun _ _ _ _ h => h) rfl rfl rfl rfl rfl rfl ?_
   refine ga_r (i := 17) (bz 34 262143) rfl (by kernel_rfl) (by decide) rfl (r_pick0 rfl rfl) <| ga_r (i := 18) (bz 34 524287) rfl (by kernel_rfl) (by decide) rfl (r_move) <| ga_no (i := 19) (bz 34 1048575) rfl (by kernel_rfl) (fun _ _ _ _ h => h) rfl rfl rfl rfl rfl rfl <| ga_no (i := 20) (bz 34 2097151) rfl (by kernel_rfl) (fun _ _ _ _ h => h) rfl rfl rfl rfl rfl rfl <| ga_r (i := 21) (bz 34 4194303) rfl (by kernel_rfl) (by decide) rfl (r_pick0 rfl rfl) <| ga_r (i := 22) (bz 34 8388607) rfl (by kernel_rfl) (by decide) rfl (r_move) <| ga_no (i := 23) (bz 34 16777215) rfl (by kernel_rfl) (fun _ _ _ _ h => h) rfl rfl rfl rfl rfl rfl <| ga_no (i := 24) (bz 34 33554431) rfl (by kernel_rfl) (fun _ _ _ _ h => h) rfl rfl rfl rfl rfl rfl <| ga_no (i := 25) (bz 34 67108863) rfl (by kernel_rfl) (fun _ _ _ _ h => h) rfl rfl rfl rfl rfl rfl <| ga_r (i := 26) (bz 34 134217727) rfl (by kernel_rfl) (by decide) rfl (r_pick0 rfl rfl) ?_
   refine ga_r (i := 27) (bz 34 268435455) rfl (by kernel_rfl) (by decide) rfl (r_move) <| ga_no (i := 28) (bz 34 536870911) rfl (by kernel_rfl) (fun _ _ _ _ h => h) rfl rfl rfl rfl rfl rfl <| ga_no (i := 29) (bz 34 1073741823) rfl (by kernel_rfl) (fun _ _ _ _ h => h) rfl rfl rfl rfl rfl rfl <| ga_no (i := 30) (bz 34 2147483647) rfl (by kernel_rfl) (fun _ _ _ _ h => h) rfl rfl rfl rfl rfl rfl <| ga_no (i := 31) (bz 34 4294967295) rfl (by kernel_rfl) (fun _ _ _ _ h => h) rfl rfl rfl rfl rfl rfl <| ga_r (i := 32) (bz 34 8589934591) rfl (by kernel_rfl) (by decide) rfl (r_pick0 rfl rfl) <| ga_r (i := 33) (bz 34 17179869183) rfl (by kernel_rfl) (by decide) rfl (r_assign) <| ga_done (by kernel_rfl) <| d_then ?_
   refine c_flat [(0, .bool false)] ⟨rfl, trivial⟩ (fun u => ?_)
   refine c_sta ⟨w0, M, (100100, g111, .cells #[.int .u16 x96.fID, .bool x96.fResponse, .bool x96.fAuthoritative, .bool x96.fTruncated, .bool x96.fDesired, .bool x96.fAvailable, .int .i64 x96.fOpcode, .int .i64 x96.fCode, .slice A98 x96.fQuestions.length c99, .slice A101 x96.fAnswers.length c102, .slice A104 x96.fAuthorities.length c105, .slice A107 x96.fExtras.length c108] 62 (0, 0)) :: (100080, g80, .cells #[.int .u16 x63.fID, .bool x63.fResponse, .bool x63.fAuthoritative, .bool x63.fTruncated, .bool x63.fDesired, .bool x63.fAvailable, .int .i64 x63.fOpcode, .int .i64 x63.fCode, .slice A66 x63.fQuestions.length c67, .slice A69 x63.fAnswers.length c70, .slice A72 x63.fAuthorities.length c73, .slice A75 x63.fExtras.length c76] 62 (0, 0)) :: (100060, g60, .cells #[.int .u16 x43.fID, .bool x43.fResponse, .bool x43.fAuthoritative, .bool x43.fTruncated, .bool x43.fDesired, .bool x43.fAvailable, .int .i64 x43.fOpcode, .int .i64 x43.fCode, .slice A46 x43.fQuestions.length c47, .slice A49 x43.fAnswers.length c50, .slice A52 x43.fAuthorities.length c53, .slice A55 x43.fExtras.length c56] 62 (0, 0)) :: (100040, g40, .cells #[.int .u16 x23.fID, .bool x23.fResponse, .bool x23.fAuthoritative, .bool x23.fTruncated, .bool x23.fDesired, .bool x23.fAvailable, .int .i64 x23.fOpcode, .int .i64 x23.fCode, .slice A26 x23.fQuestions.length c27, .slice A29 x23.fAnswers.length c30, .slice A32 x23.fAuthorities.length c33, .slice A35 x23.fExtras.length c36] 62 (0, 0)) :: (100010, g1, .cells #[.string (⟨#[1, 97, 0]⟩ : ByteArray), .int .u16 1, .int .u16 1] 74 (0, 0)) :: H, (13, ⟨.slice (some ⟨g62, 0, none⟩) l61.length l61.length, 5, 1, l61.length, l61.flatMap (fun x : Int => [Value.int .u8 x])⟩) :: (12, ⟨.slice (some ⟨g42, 0, none⟩) l41.length l41.length, 5, 1, l41.length, l41.flatMap (fun x : Int => [Value.int .u8 x])⟩) :: (11, ⟨.slice (some ⟨g22, 0, none⟩) l21.length l21.length, 5, 1, l21.length, l21.flatMap (fun x : Int => [Value.int .u8 x])⟩) :: R, φ110⟩ (fun _ h => h) <| c_ret ?_
   replace hm := Option.some.inj hm
   subst hm
   refine d_retC () Try.results38 ?_ trivial (fun W h => ok_pre (H1 := [_, _, _, _, _]) (R1 := [_, _, _]) h (fun W hφ => (q16 _ (q38 _ (q58 _ (q78 _ (q95 _ (q110 _ hφ)))))))) (.inr rfl)
   refine res_tmp <| res_nil ?_
   exact rfl
 ·
  replace hm := ite_f hm (of_decide_eq_false h160)
  refine ga_no (i := 3) (bz 34 15) rfl (by kernel_rfl) (fun _ _ _ _ h => h) rfl rfl rfl rfl rfl h160 <| ga_no (i := 4) (bz 34 31) rfl (by kernel_rfl) (fun _ _ _ _ h => h) rfl rfl rfl rfl rfl h160 <| ga_r (i := 5) (bz 34 63) rfl (by kernel_rfl) (by decide) rfl (r_pick0 rfl h160) <| ga_r (i := 6) (bz 34 127) rfl (by kernel_rfl) (by decide) rfl (r_move) <| ga_no (i := 7) (bz 34 255) rfl (by kernel_rfl) (fun _ _ _ _ h => h) rfl rfl rfl rfl rfl rfl <| ga_no (i := 8) (bz 34 511) rfl (by kernel_rfl) (fun _ _ _ _ h => h) rfl rfl rfl rfl rfl rfl <| ga_r (i := 9) (bz 34 1023) rfl (by kernel_rfl) (by decide) rfl (r_pick0 rfl rfl) <| ga_r (i := 10) (bz 34 2047) rfl (by kernel_rfl) (by decide) rfl (r_move) <| ga_no (i := 11) (bz 34 4095) rfl (by kernel_rfl) (fun _ _ _ _ h => h) rfl rfl rfl rfl rfl rfl <| ga_no (i := 12) (bz 34 8191) rfl (by kernel_rfl) (fun _ _ _ _ h => h) rfl rfl rfl rfl rfl rfl ?_
  refine ga_r (i := 13) (bz 34 16383) rfl (by kernel_rfl) (by decide) rfl (r_pick0 rfl rfl) <| ga_r (i := 14) (bz 34 32767) rfl (by kernel_rfl) (by decide) rfl (r_move) <| ga_no (i := 15) (bz 34 65535) rfl (by kernel_rfl) (fun _ _ _ _ h => h) rfl rfl rfl rfl rfl rfl <| ga_no (i := 16) (bz 34 131071) rfl (by kernel_rfl) (fun _ _ _ _ h => h) rfl rfl rfl rfl rfl rfl <| ga_r (i := 17) (bz 34 262143) rfl (by kernel_rfl) (by decide) rfl (r_pick0 rfl rfl) <| ga_r (i := 18) (bz 34 524287) rfl (by kernel_rfl) (by decide) rfl (r_move) <| ga_no (i := 19) (bz 34 1048575) rfl (by kernel_rfl) (fun _ _ _ _ h => h) rfl rfl rfl rfl rfl rfl <| ga_no (i := 20) (bz 34 2097151) rfl (by kernel_rfl) (fun _ _ _ _ h => h) rfl rfl rfl rfl rfl rfl <| ga_r (i := 21) (bz 34 4194303) rfl (by kernel_rfl) (by decide) rfl (r_pick0 rfl rfl) <| ga_r (i := 22) (bz 34 8388607) rfl (by kernel_rfl) (by decide) rfl (r_move) ?_
  refine ga_no (i := 23) (bz 34 16777215) rfl (by kernel_rfl) (fun _ _ _ _ h => h) rfl rfl rfl rfl rfl rfl <| ga_no (i := 24) (bz 34 33554431) rfl (by kernel_rfl) (fun _ _ _ _ h => h) rfl rfl rfl rfl rfl rfl <| ga_no (i := 25) (bz 34 67108863) rfl (by kernel_rfl) (fun _ _ _ _ h => h) rfl rfl rfl rfl rfl rfl <| ga_r (i := 26) (bz 34 134217727) rfl (by kernel_rfl) (by decide) rfl (r_pick0 rfl rfl) <| ga_r (i := 27) (bz 34 268435455) rfl (by kernel_rfl) (by decide) rfl (r_move) <| ga_no (i := 28) (bz 34 536870911) rfl (by kernel_rfl) (fun _ _ _ _ h => h) rfl rfl rfl rfl rfl rfl <| ga_no (i := 29) (bz 34 1073741823) rfl (by kernel_rfl) (fun _ _ _ _ h => h) rfl rfl rfl rfl rfl rfl <| ga_no (i := 30) (bz 34 2147483647) rfl (by kernel_rfl) (fun _ _ _ _ h => h) rfl rfl rfl rfl rfl rfl <| ga_no (i := 31) (bz 34 4294967295) rfl (by kernel_rfl) (fun _ _ _ _ h => h) rfl rfl rfl rfl rfl rfl <| ga_r (i := 32) (bz 34 8589934591) rfl (by kernel_rfl) (by decide) rfl (r_pick0 rfl rfl) ?_
  refine ga_r (i := 33) (bz 34 17179869183) rfl (by kernel_rfl) (by decide) rfl (r_assign) <| ga_done (by kernel_rfl) <| d_then ?_
  refine c_flat [(0, .bool false)] ⟨rfl, trivial⟩ (fun u => ?_)
  refine c_sta ⟨w0, M, (100100, g111, .cells #[.int .u16 x96.fID, .bool x96.fResponse, .bool x96.fAuthoritative, .bool x96.fTruncated, .bool x96.fDesired, .bool x96.fAvailable, .int .i64 x96.fOpcode, .int .i64 x96.fCode, .slice A98 x96.fQuestions.length c99, .slice A101 x96.fAnswers.length c102, .slice A104 x96.fAuthorities.length c105, .slice A107 x96.fExtras.length c108] 62 (0, 0)) :: (100080, g80, .cells #[.int .u16 x63.fID, .bool x63.fResponse, .bool x63.fAuthoritative, .bool x63.fTruncated, .bool x63.fDesired, .bool x63.fAvailable, .int .i64 x63.fOpcode, .int .i64 x63.fCode, .slice A66 x63.fQuestions.length c67, .slice A69 x63.fAnswers.length c70, .slice A72 x63.fAuthorities.length c73, .slice A75 x63.fExtras.length c76] 62 (0, 0)) :: (100060, g60, .cells #[.int .u16 x43.fID, .bool x43.fResponse, .bool x43.fAuthoritative, .bool x43.fTruncated, .bool x43.fDesired, .bool x43.fAvailable, .int .i64 x43.fOpcode, .int .i64 x43.fCode, .slice A46 x43.fQuestions.length c47, .slice A49 x43.fAnswers.length c50, .slice A52 x43.fAuthorities.length c53, .slice A55 x43.fExtras.length c56] 62 (0, 0)) :: (100040, g40, .cells #[.int .u16 x23.fID, .bool x23.fResponse, .bool x23.fAuthoritative, .bool x23.fTruncated, .bool x23.fDesired, .bool x23.fAvailable, .int .i64 x23.fOpcode, .int .i64 x23.fCode, .slice A26 x23.fQuestions.length c27, .slice A29 x23.fAnswers.length c30, .slice A32 x23.fAuthorities.length c33, .slice A35 x23.fExtras.length c36] 62 (0, 0)) :: (100010, g1, .cells #[.string (⟨#[1, 97, 0]⟩ : ByteArray), .int .u16 1, .int .u16 1] 74 (0, 0)) :: H, (13, ⟨.slice (some ⟨g62, 0, none⟩) l61.length l61.length, 5, 1, l61.length, l61.flatMap (fun x : Int => [Value.int .u8 x])⟩) :: (12, ⟨.slice (some ⟨g42, 0, none⟩) l41.length l41.length, 5, 1, l41.length, l41.flatMap (fun x : Int => [Value.int .u8 x])⟩) :: (11, ⟨.slice (some ⟨g22, 0, none⟩) l21.length l21.length, 5, 1, l21.length, l21.flatMap (fun x : Int => [Value.int .u8 x])⟩) :: R, φ110⟩ (fun _ h => h) <| c_ret ?_
  replace hm := Option.some.inj hm
  subst hm
  refine d_retC () Try.results38 ?_ trivial (fun W h => ok_pre (H1 := [_, _, _, _, _]) (R1 := [_, _, _]) h (fun W hφ => (q16 _ (q38 _ (q58 _ (q78 _ (q95 _ (q110 _ hφ)))))))) (.inr rfl)
  refine res_tmp <| res_nil ?_
  exact rfl
noncomputable def m_law06_short (p0 : ByteArray) (p1 : Int) : Option ByteArray :=
  if p1 < (p0.size : Int) then
    (scutHi p0 p1).bind fun s2 =>
    some s2
  else
    some p0
theorem c_law06_short {w0 : World} {M : Nat → Prop} {H : List (Nat × Nat × Obj)} {R : List (Nat × Row)} {φ : World → Prop} (p0 : ByteArray) (p1 : Int) (r : ByteArray) (hm : m_law06_short p0 p1 = some r) :
    Cn Try.prog 42 #[.string p0, .int .i64 p1] ⟨w0, M, H, R, φ⟩ (fun x : Unit => .string r) (fun x => True) (fun x => ⟨w0, M, H, R, φ⟩) := by
 unfold m_law06_short at hm
 refine cn_intro (fn := Try.f42) (N := 13) Try.func42 rfl Try.ntmps42 rfl <| c_seq <| c_region <| g_v rfl r_assign <| g_nil <| d_then <| c_seq <| c_seq <| c_region <| g_v rfl r_move ?_
 refine g_v rfl (r_len Try.underlying9 rfl) <| g_v rfl r_move <| g_v rfl (r_gtr rfl rfl) <| g_nil <| d_then ?_
 refine c_cond rfl (fun h1 => ?_) (fun h1 => ?_)
 ·
  replace hm := ite_t hm (of_decide_eq_true h1)
  refine c_seq <| c_region <| g_v rfl r_move <| g_v rfl r_move ?_
  replace hm := bnd hm
  obtain ⟨s2, hs2, hm⟩ := hm
  refine g_v rfl (r_scutHi Try.underlying9 rfl rfl hs2) <| g_v rfl r_assign <| g_nil <| d_then ?_
  refine c_flat [(4, .string s2)] ⟨rfl, trivial⟩ (fun u => ?_)
  refine c_sta ⟨w0, M, H, R, φ⟩ (fun _ h => h) <| c_ret <| d_ret_then ?_
  replace hm := Option.some.inj hm
  subst hm
  refine d_retC () Try.results42 ?_ trivial (fun W h => ok_pre (H1 := []) (R1 := []) h (fun W hφ => hφ)) (.inr rfl)
  refine res_tmp <| res_nil ?_
  exact rfl
 ·
  replace hm := ite_f hm (of_decide_eq_false h1)
  refine c_skip <| d_then <| c_seq <| c_region <| g_v rfl r_move <| g_v rfl r_assign <| g_nil <| d_then <| c_ret ?_
  replace hm := Option.some.inj hm
  subst hm
  refine d_retC () Try.results42 ?_ trivial (fun W h => ok_pre (H1 := []) (R1 := []) h (fun W hφ => hφ)) (.inr rfl)
  refine res_tmp <| res_nil ?_
  exact rfl
noncomputable def m_ref04_Raw (p0 : ByteArray) (p1 : Int) (p2 : Int) : Option (ByteArray × Int × Int) :=
  if p1 < 0 then
    some ((⟨#[]⟩ : ByteArray), 0, 10)
  else
    if p2 < 0 then
      some ((⟨#[]⟩ : ByteArray), 0, 10)
    else
      if (p0.size : Int) < p1 then
        some ((⟨#[]⟩ : ByteArray), 0, 10)
      else
        if w64 ((p0.size : Int) - p1) < p2 then
          some ((⟨#[]⟩ : ByteArray), 0, 10)
        else
          (scutMid p0 p1 (w64 (p1 + p2))).bind fun s5 =>
          some (s5, w64 (p1 + p2), 0)
theorem c_ref04_Raw {w0 : World} {M : Nat → Prop} {H : List (Nat × Nat × Obj)} {R : List (Nat × Row)} {φ : World → Prop} (p0 : ByteArray) (p1 : Int) (p2 : Int) (r : ByteArray × Int × Int) (hm : m_ref04_Raw p0 p1 p2 = some r) :
    Cn Try.prog 65 #[.string p0, .int .i64 p1, .int .i64 p2] ⟨w0, M, H, R, φ⟩ (fun x : Unit => .tuple #[.string r.1, .int .i64 r.2.1, .int .i64 r.2.2]) (fun x => True) (fun x => ⟨w0, M, H, R, φ⟩) := by
 unfold m_ref04_Raw at hm
 refine cn_intro (fn := Try.f65) (N := 38) Try.func65 rfl Try.ntmps65 rfl <| c_seq <| c_region <| g_v rfl r_assign <| g_v rfl r_assign <| g_v rfl r_assign <| g_nil <| d_then <| c_seq <| c_seq ?_
 refine c_region <| g_v rfl r_move <| g_v rfl (r_lss rfl rfl) <| g_v rfl r_move ?_
 refine g_if rfl rfl rfl rfl rfl (fun h1 => ?_) (fun h1 => ?_)
 ·
  replace hm := ite_f hm (of_decide_eq_false h1)
  refine g_v rfl r_move <| g_do rfl rfl rfl rfl rfl h1 <| g_v rfl (r_lss rfl rfl) <| g_v rfl (r_pick0 rfl h1) <| g_v rfl r_move ?_
  refine g_if rfl rfl rfl rfl rfl (fun h2 => ?_) (fun h2 => ?_)
  ·
   replace hm := ite_f hm (of_decide_eq_false h2)
   refine g_v rfl r_move <| g_do rfl rfl rfl rfl rfl h2 <| g_v rfl r_move <| g_do rfl rfl rfl rfl rfl h2 <| g_v rfl (r_len Try.underlying9 rfl) <| g_do rfl rfl rfl rfl rfl h2 <| g_v rfl (r_gtr rfl rfl) <| g_v rfl (r_pick0 rfl h2) <| g_v rfl r_move ?_
   refine g_if rfl rfl rfl rfl rfl (fun h3 => ?_) (fun h3 => ?_)
   ·
    replace hm := ite_f hm (of_decide_eq_false h3)
    refine g_v rfl r_move <| g_do rfl rfl rfl rfl rfl h3 <| g_v rfl r_move <| g_do rfl rfl rfl rfl rfl h3 <| g_v rfl (r_len Try.underlying9 rfl) <| g_do rfl rfl rfl rfl rfl h3 <| g_v rfl r_move <| g_do rfl rfl rfl rfl rfl h3 <| g_v rfl (r_sub rfl rfl rfl) <| g_do rfl rfl rfl rfl rfl h3 ?_
    refine g_v rfl (r_gtr rfl rfl) <| g_v rfl (r_pick0 rfl h3) <| g_nil <| d_then ?_
    refine c_flat [(0, .string p0), (1, .int .i64 p1), (2, .int .i64 p2), (28, .bool (decide (w64 ((p0.size : Int) - p1) < p2)))] ⟨rfl, rfl, rfl, rfl, trivial⟩ (fun u => ?_)
    refine c_sta ⟨w0, M, H, R, φ⟩ (fun _ h => h) ?_
    refine c_cond rfl (fun h4 => ?_) (fun h4 => ?_)
    ·
     replace hm := ite_t hm (of_decide_eq_true h4)
     refine c_seq <| c_region <| g_v rfl r_assign <| g_v rfl r_assign <| g_v rfl r_assign <| g_nil <| d_then <| c_ret <| d_ret_then ?_
     replace hm := Option.some.inj hm
     subst hm
     refine d_retC () Try.results65 ?_ trivial (fun W h => ok_pre (H1 := []) (R1 := []) h (fun W hφ => hφ)) (.inr rfl)
     refine res_tmp <| res_tmp <| res_tmp <| res_nil ?_
     exact rfl
    ·
     replace hm := ite_f hm (of_decide_eq_false h4)
     refine c_skip <| d_then <| c_seq <| c_region <| g_v rfl r_move <| g_v rfl r_move <| g_v rfl r_move <| g_v rfl r_move <| g_v rfl (r_add rfl rfl rfl) ?_
     replace hm := bnd hm
     obtain ⟨s5, hs5, hm⟩ := hm
     refine g_v rfl (r_scutMid Try.underlying9 rfl rfl rfl hs5) <| g_v rfl r_move <| g_v rfl r_move <| g_v rfl (r_add rfl rfl rfl) <| g_v rfl r_assign <| g_v rfl r_assign <| g_v rfl r_assign <| g_nil <| d_then ?_
     refine c_flat [(6, .string s5), (7, .int .i64 (w64 (p1 + p2))), (8, .int .i64 0)] ⟨rfl, rfl, rfl, trivial⟩ (fun u => ?_)
     refine c_ret ?_
     replace hm := Option.some.inj hm
     subst hm
     refine d_retC () Try.results65 ?_ trivial (fun W h => ok_pre (H1 := []) (R1 := []) h (fun W hφ => hφ)) (.inr rfl)
     refine res_tmp <| res_tmp <| res_tmp <| res_nil ?_
     exact rfl
   ·
    replace hm := ite_t hm (of_decide_eq_true h3)
    refine g_no rfl rfl rfl rfl rfl h3 <| g_no rfl rfl rfl rfl rfl h3 <| g_no rfl rfl rfl rfl rfl h3 <| g_no rfl rfl rfl rfl rfl h3 <| g_no rfl rfl rfl rfl rfl h3 <| g_v rfl (r_pick1 rfl h3) <| g_nil <| d_then ?_
    refine c_flat [(0, .string p0), (1, .int .i64 p1), (2, .int .i64 p2), (28, .bool true)] ⟨rfl, rfl, rfl, rfl, trivial⟩ (fun u => ?_)
    refine c_sta ⟨w0, M, H, R, φ⟩ (fun _ h => h) <| c_cond1 rfl rfl <| c_seq <| c_region <| g_v rfl r_assign <| g_v rfl r_assign <| g_v rfl r_assign <| g_nil <| d_then <| c_ret ?_
    refine d_ret_then ?_
    replace hm := Option.some.inj hm
    subst hm
    refine d_retC () Try.results65 ?_ trivial (fun W h => ok_pre (H1 := []) (R1 := []) h (fun W hφ => hφ)) (.inr rfl)
    refine res_tmp <| res_tmp <| res_tmp <| res_nil ?_
    exact rfl
  ·
   replace hm := ite_t hm (of_decide_eq_true h2)
   refine g_no rfl rfl rfl rfl rfl h2 <| g_no rfl rfl rfl rfl rfl h2 <| g_no rfl rfl rfl rfl rfl h2 <| g_v rfl (r_pick1 rfl h2) <| g_v rfl r_move <| g_no rfl rfl rfl rfl rfl rfl <| g_no rfl rfl rfl rfl rfl rfl <| g_no rfl rfl rfl rfl rfl rfl <| g_no rfl rfl rfl rfl rfl rfl <| g_no rfl rfl rfl rfl rfl rfl ?_
   refine g_no rfl rfl rfl rfl rfl rfl <| g_v rfl (r_pick1 rfl rfl) <| g_nil <| d_then ?_
   refine c_flat [(0, .string p0), (1, .int .i64 p1), (2, .int .i64 p2), (28, .bool true)] ⟨rfl, rfl, rfl, rfl, trivial⟩ (fun u => ?_)
   refine c_sta ⟨w0, M, H, R, φ⟩ (fun _ h => h) <| c_cond1 rfl rfl <| c_seq <| c_region <| g_v rfl r_assign <| g_v rfl r_assign <| g_v rfl r_assign <| g_nil <| d_then <| c_ret ?_
   refine d_ret_then ?_
   replace hm := Option.some.inj hm
   subst hm
   refine d_retC () Try.results65 ?_ trivial (fun W h => ok_pre (H1 := []) (R1 := []) h (fun W hφ => hφ)) (.inr rfl)
   refine res_tmp <| res_tmp <| res_tmp <| res_nil ?_
   exact rfl
 ·
  replace hm := ite_t hm (of_decide_eq_true h1)
  refine g_no rfl rfl rfl rfl rfl h1 <| g_v rfl (r_pick1 rfl h1) <| g_v rfl r_move <| g_no rfl rfl rfl rfl rfl rfl <| g_no rfl rfl rfl rfl rfl rfl <| g_no rfl rfl rfl rfl rfl rfl <| g_no rfl rfl rfl rfl rfl rfl <| g_v rfl (r_pick1 rfl rfl) <| g_v rfl r_move <| g_no rfl rfl rfl rfl rfl rfl ?_
  refine g_no rfl rfl rfl rfl rfl rfl <| g_no rfl rfl rfl rfl rfl rfl <| g_no rfl rfl rfl rfl rfl rfl <| g_no rfl rfl rfl rfl rfl rfl <| g_no rfl rfl rfl rfl rfl rfl <| g_v rfl (r_pick1 rfl rfl) <| g_nil <| d_then ?_
  refine c_flat [(0, .string p0), (1, .int .i64 p1), (2, .int .i64 p2), (28, .bool true)] ⟨rfl, rfl, rfl, rfl, trivial⟩ (fun u => ?_)
  refine c_sta ⟨w0, M, H, R, φ⟩ (fun _ h => h) <| c_cond1 rfl rfl <| c_seq <| c_region <| g_v rfl r_assign <| g_v rfl r_assign <| g_v rfl r_assign <| g_nil <| d_then <| c_ret ?_
  refine d_ret_then ?_
  replace hm := Option.some.inj hm
  subst hm
  refine d_retC () Try.results65 ?_ trivial (fun W h => ok_pre (H1 := []) (R1 := []) h (fun W hφ => hφ)) (.inr rfl)
  refine res_tmp <| res_tmp <| res_tmp <| res_nil ?_
  exact rfl
noncomputable def m_ref04_Number_j1 (x2 : Int) (i18 : Int) : Option (Int × Int × Int) :=
  some (i18, x2, 0)
noncomputable def m_ref04_Number_s2 (x1 : ByteArray) (i23 : Int) (i24 : Int) : Option ((Int × Int) ⊕ Int) :=
  if i24 < (x1.size : Int) then
    (sat_ x1 i24).bind fun b31 =>
    some (.inl (w64 ((w64 (i23 * 256)) + (w64 b31)), w64 (i24 + 1)))
  else
    some (.inr i23)
noncomputable def m_ref04_Number (p0 : ByteArray) (p1 : Int) (p2 : Int) : Option (Int × Int × Int) :=
  (m_ref04_Raw p0 p1 p2).bind fun (z5 : ByteArray × Int × Int) =>
  if z5.2.2 ≠ 0 then
    some (0, 0, z5.2.2)
  else
    (loop (fun s => m_ref04_Number_s2 z5.1 s.1 s.2) (0, 0)).bind fun e => m_ref04_Number_j1 z5.2.1 e
theorem c_ref04_Number {w0 : World} {M : Nat → Prop} {H : List (Nat × Nat × Obj)} {R : List (Nat × Row)} {φ : World → Prop} (p0 : ByteArray) (p1 : Int) (p2 : Int) (r : Int × Int × Int) (hm : m_ref04_Number p0 p1 p2 = some r) :
    Cn Try.prog 64 #[.string p0, .int .i64 p1, .int .i64 p2] ⟨w0, M, H, R, φ⟩ (fun x : Unit => .tuple #[.int .i64 r.1, .int .i64 r.2.1, .int .i64 r.2.2]) (fun x => True) (fun x => ⟨w0, M, H, R, φ⟩) := by
 unfold m_ref04_Number at hm
 refine cn_intro (fn := Try.f64) (N := 40) Try.func64 rfl Try.ntmps64 rfl <| c_seq <| c_region <| g_v rfl r_assign <| g_v rfl r_assign <| g_v rfl r_assign <| g_nil <| d_then <| c_seq <| c_region ?_
 refine g_v rfl r_move <| g_v rfl r_move <| g_v rfl r_move ?_
 replace hm := bnd hm
 obtain ⟨⟨x1, x2, x3⟩, hx4, hm⟩ := hm
 refine g_cn ⟨w0, M, _, _, φ⟩ (fun _ h => h) Try.call65 rfl rfl (c_ref04_Raw p0 p1 p2 _ hx4) (fun _ _ => ?_)
 refine g_v rfl r_move <| g_v rfl (r_extract rfl rfl) <| g_v rfl (r_extract rfl rfl) <| g_v rfl (r_extract rfl rfl) <| g_v rfl r_assign <| g_v rfl r_assign <| g_v rfl r_assign <| g_nil <| d_then ?_
 refine c_flat [(9, .string x1), (10, .int .i64 x2), (11, .int .i64 x3)] ⟨rfl, rfl, rfl, trivial⟩ (fun u => ?_)
 refine c_sta ⟨w0, M, H, R, φ⟩ (fun _ h => h) <| c_seq <| c_seq <| c_region <| g_v rfl r_move <| g_v rfl (r_neq rfl rfl) <| g_nil <| d_then ?_
 refine c_cond rfl (fun h6 => ?_) (fun h6 => ?_)
 ·
  replace hm := ite_t hm (of_decide_eq_true h6)
  refine c_seq <| c_region <| g_v rfl r_move <| g_v rfl r_assign <| g_v rfl r_assign <| g_v rfl r_assign <| g_nil <| d_then <| c_ret <| d_ret_then ?_
  replace hm := Option.some.inj hm
  subst hm
  refine d_retC () Try.results64 ?_ trivial (fun W h => ok_pre (H1 := []) (R1 := []) h (fun W hφ => hφ)) (.inr rfl)
  refine res_tmp <| res_tmp <| res_tmp <| res_nil ?_
  exact rfl
 ·
  replace hm := ite_f hm (of_decide_eq_false h6)
  refine c_skip <| d_then <| c_seq <| c_region <| g_v rfl r_assign <| g_nil <| d_then <| c_seq <| c_seq <| c_region ?_
  refine g_v rfl r_assign <| g_nil <| d_then ?_
  refine c_cut (ι := Int) [10, 12] (fun i18 => [(12, .int .i64 i18)]) (fun i18 => ⟨w0, M, H, R, φ⟩) (fun i18 => m_ref04_Number_j1 x2 i18 = some r) ?_ (fun i18 u hm => ?_)
  ·
   refine c_block ?_
   replace hm := bnd hm
   obtain ⟨out2, hl2, hr2⟩ := hm
   obtain ⟨n29', hl2⟩ := loop_lp hl2
   refine c_loopU (ι := Nat × Int × Int) [9, 10, 12, 13] (fun ⟨n29, i23, i24⟩ => [(12, .int .i64 i23), (13, .int .i64 i24)]) (fun ⟨n29, i23, i24⟩ => ⟨w0, M, H, R, φ⟩) (fun ⟨n29, i23, i24⟩ => Lp (fun s => m_ref04_Number_s2 x1 s.1 s.2) n29 (i23, i24) out2) (fun ⟨n29, i23, i24⟩ => n29) (n29', 0, 0) hl2 ⟨rfl, rfl, rfl, rfl, trivial⟩ (fun W h => h.phi (fun W hφ => hφ)) (fun ⟨n29, i23, i24⟩ u hlp => ?_)
   obtain ⟨o2, hm, hnx2⟩ := lp_step hlp
   clear hlp
   replace hm : m_ref04_Number_s2 x1 i23 i24 = some o2 := hm
   unfold m_ref04_Number_s2 at hm
   refine c_flat [(9, .string x1), (10, .int .i64 x2), (12, .int .i64 i23), (13, .int .i64 i24)] ⟨rfl, rfl, rfl, rfl, trivial⟩ (fun u => ?_)
   refine c_seq <| c_seq <| c_region <| g_v rfl r_move <| g_v rfl r_move <| g_v rfl (r_len Try.underlying9 rfl) <| g_v rfl (r_lss rfl rfl) <| g_nil <| d_then ?_
   refine c_cond rfl (fun h30 => ?_) (fun h30 => ?_)
   ·
    replace hm := ite_t hm (of_decide_eq_true h30)
    refine c_skip <| d_then <| c_seq <| c_block <| c_region <| g_v rfl r_move <| g_v rfl (r_mul rfl rfl rfl) <| g_v rfl r_move <| g_v rfl r_move ?_
    replace hm := bnd hm
    obtain ⟨b31, hb31, hm⟩ := hm
    refine g_v rfl (r_sat Try.underlying9 rfl rfl hb31) <| g_v rfl (r_conv Try.underlying5 Try.underlying3 rfl rfl) <| g_v rfl (r_add rfl rfl rfl) <| g_v rfl r_assign <| g_nil <| d_normal_block <| d_then ?_
    refine c_flat [(9, .string x1), (10, .int .i64 x2), (12, .int .i64 (w64 ((w64 (i23 * 256)) + (w64 b31)))), (13, .int .i64 i24)] ⟨rfl, rfl, rfl, rfl, trivial⟩ (fun u => ?_)
    refine c_region <| g_v rfl r_move <| g_v rfl (r_add rfl rfl rfl) <| g_v rfl r_assign <| g_nil ?_
    obtain ⟨n32, hn32, hlp⟩ := nx_inl hm hnx2
    exact d_round (n32, w64 ((w64 (i23 * 256)) + (w64 b31)), w64 (i24 + 1)) hlp hn32 ⟨rfl, rfl, rfl, rfl, trivial⟩ (fun W h => h.phi (fun W hφ => hφ))
   ·
    replace hm := ite_f hm (of_decide_eq_false h30)
    refine c_exit <| d_exit_then <| d_exit_then <| d_exit_block ?_
    replace hm := nx_out (C := (fun e => m_ref04_Number_j1 x2 e = some r)) hm hnx2 hr2
    exact d_round i23 hm Nat.zero_lt_one ⟨rfl, rfl, trivial⟩ (fun W h => h.phi (fun W hφ => hφ))
  ·
   unfold m_ref04_Number_j1 at hm
   refine d_flat [(10, .int .i64 x2), (12, .int .i64 i18)] ⟨rfl, rfl, trivial⟩ (fun u => ?_)
   refine d_then <| c_seq <| c_region <| g_v rfl r_move <| g_v rfl r_move <| g_v rfl r_assign <| g_v rfl r_assign <| g_v rfl r_assign <| g_nil <| d_then ?_
   refine c_ret ?_
   replace hm := Option.some.inj hm
   subst hm
   refine d_retC () Try.results64 ?_ trivial (fun W h => ok_pre (H1 := []) (R1 := []) h (fun W hφ => hφ)) (.inr rfl)
   refine res_tmp <| res_tmp <| res_tmp <| res_nil ?_
   exact rfl
theorem bld62_25 (z0 : Int) (z1 : Bool) (z2 : Int) (z3 : Bool) (z4 : Bool) (z5 : Bool) (z6 : Bool) (z7 : Int) : ∀ W, (Instr.build 62 #[(0, .int .u16 z0), (1, .bool z1), (6, .int .i64 z2), (2, .bool z3), (3, .bool z4), (4, .bool z5), (5, .bool z6), (7, .int .i64 z7)]).run Try.prog W = .ok (.agg #[.int .u16 z0, .bool z1, .bool z3, .bool z4, .bool z5, .bool z6, .int .i64 z2, .int .i64 z7, .slice none 0 0, .slice none 0 0, .slice none 0 0, .slice none 0 0]) W := fun _ => by kernel_rfl
noncomputable def m_ref06_Head (p0 : ByteArray) : Option (GMessage × Int) :=
  if (p0.size : Int) < 12 then
    some ((⟨0, false, false, false, false, false, 0, 0, ([] : List GQuestion), ([] : List GRR), ([] : List GRR), ([] : List GRR)⟩ : GMessage), 10)
  else
    (m_ref04_Number p0 0 2).bind fun (z7 : Int × Int × Int) =>
    (m_ref04_Number p0 2 2).bind fun (z12 : Int × Int × Int) =>
    some ((⟨IntKind.u16.wrap z7.1, decide (w64 (z12.1.tdiv 32768) = 1), decide ((w64 (z12.1.tdiv 1024)).tmod 2 = 1), decide ((w64 (z12.1.tdiv 512)).tmod 2 = 1), decide ((w64 (z12.1.tdiv 256)).tmod 2 = 1), decide ((w64 (z12.1.tdiv 128)).tmod 2 = 1), (w64 (z12.1.tdiv 2048)).tmod 16, z12.1.tmod 16, ([] : List GQuestion), ([] : List GRR), ([] : List GRR), ([] : List GRR)⟩ : GMessage), 0)
theorem c_ref06_Head {w0 : World} {M : Nat → Prop} {H : List (Nat × Nat × Obj)} {R : List (Nat × Row)} {φ : World → Prop} (p0 : ByteArray) (r : GMessage × Int) (hm : m_ref06_Head p0 = some r) :
    Cn Try.prog 46 #[.string p0] ⟨w0, M, H, R, φ⟩ (fun x : Option Addr × Nat × Option Addr × Nat × Option Addr × Nat × Option Addr × Nat => .tuple #[.agg #[.int .u16 r.1.fID, .bool r.1.fResponse, .bool r.1.fAuthoritative, .bool r.1.fTruncated, .bool r.1.fDesired, .bool r.1.fAvailable, .int .i64 r.1.fOpcode, .int .i64 r.1.fCode, .slice x.1 r.1.fQuestions.length x.2.1, .slice x.2.2.1 r.1.fAnswers.length x.2.2.2.1, .slice x.2.2.2.2.1 r.1.fAuthorities.length x.2.2.2.2.2.1, .slice x.2.2.2.2.2.2.1 r.1.fExtras.length x.2.2.2.2.2.2.2], .int .i64 r.2]) (fun x => r.1.fQuestions.length ≤ x.2.1 ∧ r.1.fAnswers.length ≤ x.2.2.2.1 ∧ r.1.fAuthorities.length ≤ x.2.2.2.2.2.1 ∧ r.1.fExtras.length ≤ x.2.2.2.2.2.2.2) (fun x => ⟨w0, M, H, (2000, ⟨.slice x.1 r.1.fQuestions.length x.2.1, 74, 3, r.1.fQuestions.length, r.1.fQuestions.flatMap GQuestion.enc⟩) :: R, fun W => φ W ∧ Cl W x.2.2.1 (r.1.fAnswers.flatMap GRR.enc) ∧ Cl W x.2.2.2.2.1 (r.1.fAuthorities.flatMap GRR.enc) ∧ Cl W x.2.2.2.2.2.2.1 (r.1.fExtras.flatMap GRR.enc)⟩) := by
 unfold m_ref06_Head at hm
 refine cn_intro (fn := Try.f46) (N := 53) Try.func46 rfl Try.ntmps46 rfl <| c_seq <| c_region ?_
 refine g_e rfl (e_alloc 100020 Try.zeroValue62) (fun g1 _ => ?_)
 refine g_v rfl r_assign <| g_nil <| d_then <| c_seq <| c_seq <| c_region <| g_v rfl r_move <| g_v rfl (r_len Try.underlying9 rfl) <| g_v rfl (r_lss rfl rfl) <| g_nil ?_
 refine d_then ?_
 refine c_cond rfl (fun h2 => ?_) (fun h2 => ?_)
 ·
  replace hm := ite_t hm (of_decide_eq_true h2)
  refine c_seq <| c_region <| g_v rfl (r_build _ rfl (bld62_16)) <| g_storeL (tag := 100020) rfl rfl rfl rfl Try.sizeOf62 rfl rfl <| g_v rfl r_assign <| g_nil <| d_then <| c_ret <| d_ret_then ?_
  replace hm := Option.some.inj hm
  subst hm
  refine d_sta _ (fun W h => nilR h 11 74 3) <| d_sta _ (fun W h => ok_frontR (t := 11) (t' := 2000) h rfl) ?_
  refine d_retC (none, 0, none, 0, none, 0, none, 0) Try.results46 ?_ ⟨(Nat.le_refl 0), (Nat.le_refl 0), (Nat.le_refl 0), (Nat.le_refl 0)⟩ (fun W h => (h.dropH (t := 100020) rfl).phi (fun W hφ => ⟨hφ, (fun W _ => Cl.nil _ _) W hφ, (fun W _ => Cl.nil _ _) W hφ, (fun W _ => Cl.nil _ _) W hφ⟩)) (.inr rfl)
  refine res_agg (tag := 100020) rfl rfl Try.isAgg62 Try.sizeOf62 <| res_tmp <| res_nil ?_
  exact rfl
 ·
  replace hm := ite_f hm (of_decide_eq_false h2)
  refine c_skip <| d_then <| c_seq <| c_region <| g_v rfl r_move ?_
  replace hm := bnd hm
  obtain ⟨⟨x3, x4, x5⟩, hx6, hm⟩ := hm
  refine g_cn ⟨w0, M, _, _, φ⟩ (fun _ h => h) Try.call64 rfl rfl (c_ref04_Number p0 0 2 _ hx6) (fun _ _ => ?_)
  refine g_v rfl r_move <| g_v rfl (r_extract rfl rfl) <| g_v rfl (r_extract rfl rfl) <| g_v rfl (r_extract rfl rfl) <| g_v rfl r_assign <| g_v rfl r_assign <| g_v rfl r_assign <| g_nil <| d_then ?_
  refine c_flat [(0, .string p0), (2, .pointer (some ⟨g1, 0, none⟩)), (4, .int .i64 x3)] ⟨rfl, rfl, rfl, trivial⟩ (fun u => ?_)
  refine c_sta ⟨w0, M, (100020, g1, .cells #[.int .u16 0, .bool false, .bool false, .bool false, .bool false, .bool false, .int .i64 0, .int .i64 0, .slice none 0 0, .slice none 0 0, .slice none 0 0, .slice none 0 0] 62 (0, 0)) :: H, R, φ⟩ (fun _ h => h) <| c_seq <| c_region <| g_v rfl r_move ?_
  replace hm := bnd hm
  obtain ⟨⟨x8, x9, x10⟩, hx11, hm⟩ := hm
  refine g_cn ⟨w0, M, _, _, φ⟩ (fun _ h => h) Try.call64 rfl rfl (c_ref04_Number p0 2 2 _ hx11) (fun _ _ => ?_)
  refine g_v rfl r_move <| g_v rfl (r_extract rfl rfl) <| g_v rfl (r_extract rfl rfl) <| g_v rfl (r_extract rfl rfl) <| g_v rfl r_assign <| g_v rfl r_assign <| g_v rfl r_assign <| g_nil <| d_then ?_
  refine c_flat [(2, .pointer (some ⟨g1, 0, none⟩)), (4, .int .i64 x3), (7, .int .i64 x8)] ⟨rfl, rfl, rfl, trivial⟩ (fun u => ?_)
  refine c_seq <| c_region <| g_v rfl r_move <| g_v rfl (r_conv Try.underlying3 Try.underlying24 rfl rfl) <| g_v rfl r_move <| g_v rfl (r_quo rfl rfl (by decide) rfl) <| g_v rfl (r_eql rfl rfl) <| g_v rfl r_move <| g_v rfl (r_quo rfl rfl (by decide) rfl) <| g_v rfl (r_rem rfl rfl (by decide) rfl) ?_
  refine g_v rfl r_move <| g_v rfl (r_quo rfl rfl (by decide) rfl) <| g_v rfl (r_rem rfl rfl (by decide) rfl) <| g_v rfl (r_eql rfl rfl) <| g_v rfl r_move <| g_v rfl (r_quo rfl rfl (by decide) rfl) <| g_v rfl (r_rem rfl rfl (by decide) rfl) <| g_v rfl (r_eql rfl rfl) <| g_v rfl r_move <| g_v rfl (r_quo rfl rfl (by decide) rfl) ?_
  refine g_v rfl (r_rem rfl rfl (by decide) rfl) <| g_v rfl (r_eql rfl rfl) <| g_v rfl r_move <| g_v rfl (r_quo rfl rfl (by decide) rfl) <| g_v rfl (r_rem rfl rfl (by decide) rfl) <| g_v rfl (r_eql rfl rfl) <| g_v rfl r_move <| g_v rfl (r_rem rfl rfl (by decide) rfl) <| g_v rfl (r_build _ rfl (bld62_25 _ _ _ _ _ _ _ _)) <| g_storeL (tag := 100020) rfl rfl rfl rfl Try.sizeOf62 rfl rfl ?_
  refine g_v rfl r_assign <| g_nil <| d_then ?_
  refine c_flat [(2, .pointer (some ⟨g1, 0, none⟩)), (3, .int .i64 0)] ⟨rfl, rfl, trivial⟩ (fun u => ?_)
  refine c_sta ⟨w0, M, (100020, g1, .cells #[.int .u16 (IntKind.u16.wrap x3), .bool (decide (w64 (x8.tdiv 32768) = 1)), .bool (decide ((w64 (x8.tdiv 1024)).tmod 2 = 1)), .bool (decide ((w64 (x8.tdiv 512)).tmod 2 = 1)), .bool (decide ((w64 (x8.tdiv 256)).tmod 2 = 1)), .bool (decide ((w64 (x8.tdiv 128)).tmod 2 = 1)), .int .i64 ((w64 (x8.tdiv 2048)).tmod 16), .int .i64 (x8.tmod 16), .slice none 0 0, .slice none 0 0, .slice none 0 0, .slice none 0 0] 62 (0, 0)) :: H, R, φ⟩ (fun _ h => h) <| c_ret ?_
  replace hm := Option.some.inj hm
  subst hm
  refine d_sta _ (fun W h => nilR h 12 74 3) <| d_sta _ (fun W h => ok_frontR (t := 12) (t' := 2000) h rfl) ?_
  refine d_retC (none, 0, none, 0, none, 0, none, 0) Try.results46 ?_ ⟨(Nat.le_refl 0), (Nat.le_refl 0), (Nat.le_refl 0), (Nat.le_refl 0)⟩ (fun W h => (h.dropH (t := 100020) rfl).phi (fun W hφ => ⟨hφ, (fun W _ => Cl.nil _ _) W hφ, (fun W _ => Cl.nil _ _) W hφ, (fun W _ => Cl.nil _ _) W hφ⟩)) (.inr rfl)
  refine res_agg (tag := 100020) rfl rfl Try.isAgg62 Try.sizeOf62 <| res_tmp <| res_nil ?_
  exact rfl
noncomputable def m_ref03_Make_j1  (s98 : ByteArray) : Option (ByteArray × Int) :=
  if 254 < (s98.size : Int) then
    some ((⟨#[]⟩ : ByteArray), 11)
  else
    (sadd s98 (strOfNums [0])).bind fun s101 =>
    some (s101, 0)
noncomputable def m_ref03_Make_s2 (p0 : List ByteArray) (s149 : ByteArray) (i150 : Int) : Option ((ByteArray × Int) ⊕ (ByteArray ⊕ (ByteArray × Int))) :=
  if i150 < (p0.length : Int) then
    (at_ p0 i150).bind fun x200 =>
    if (x200.size : Int) < 1 then
      some (.inr (.inr ((⟨#[]⟩ : ByteArray), 10)))
    else
      (at_ p0 i150).bind fun x205 =>
      if 63 < (x205.size : Int) then
        some (.inr (.inr ((⟨#[]⟩ : ByteArray), 10)))
      else
        if (s149.size : Int) ≤ 255 then
          (at_ p0 i150).bind fun x233 =>
          (at_ p0 i150).bind fun x237 =>
          (sadd s149 (strOfNums [IntKind.u8.wrap (x233.size : Int)])).bind fun s242 =>
          (sadd s242 x237).bind fun s243 =>
          some (.inl (s243, w64 (i150 + 1)))
        else
          some (.inl (s149, w64 (i150 + 1)))
  else
    some (.inr (.inl s149))
noncomputable def m_ref03_Make (p0 : List ByteArray) : Option (ByteArray × Int) :=
  (loop (fun s => m_ref03_Make_s2 p0 s.1 s.2) ((⟨#[]⟩ : ByteArray), 0)).bind fun e => Sum.elim (fun e => m_ref03_Make_j1 e) (fun x => some x) e
theorem c_ref03_Make {w0 : World} {M : Nat → Prop} {H : List (Nat × Nat × Obj)} {R : List (Nat × Row)} {φ : World → Prop} (p0 : List ByteArray) (Ap0_0 : Option Addr) (cp0_0 : Nat) (hcp0_0 : p0.length ≤ cp0_0) (fp0_0 : ∀ W, (Sta.mk w0 M H R φ).ok W → Cl W Ap0_0 (p0.flatMap (fun x : ByteArray => [Value.string x]))) (r : ByteArray × Int) (hm : m_ref03_Make p0 = some r) :
    Cn Try.prog 99 #[.slice Ap0_0 p0.length cp0_0] ⟨w0, M, H, R, φ⟩ (fun x : Unit => .tuple #[.string r.1, .int .i64 r.2]) (fun x => True) (fun x => ⟨w0, M, H, R, φ⟩) := by
 unfold m_ref03_Make at hm
 refine cn_intro (fn := Try.f99) (N := 51) Try.func99 rfl Try.ntmps99 rfl <| c_seq <| c_region <| g_v rfl r_assign <| g_v rfl r_assign <| g_nil <| d_then <| c_seq <| c_region <| g_v rfl r_assign ?_
 refine g_nil <| d_then <| c_seq <| c_seq <| c_region <| g_v rfl r_assign <| g_nil <| d_then ?_
 refine c_cut (ι := ByteArray) [4] (fun s98 => [(4, .string s98)]) (fun s98 => ⟨w0, M, H, R, φ⟩) (fun s98 => m_ref03_Make_j1 s98 = some r) ?_ (fun s98 u hm => ?_)
 ·
  refine c_block ?_
  replace hm := bnd hm
  obtain ⟨out2, hl2, hr2⟩ := hm
  obtain ⟨n198', hl2⟩ := loop_lp hl2
  refine c_loopU (ι := Nat × ByteArray × Int) [0, 4, 5] (fun ⟨n198, s149, i150⟩ => [(4, .string s149), (5, .int .i64 i150)]) (fun ⟨n198, s149, i150⟩ => ⟨w0, M, H, R, φ⟩) (fun ⟨n198, s149, i150⟩ => Lp (fun s => m_ref03_Make_s2 p0 s.1 s.2) n198 (s149, i150) out2) (fun ⟨n198, s149, i150⟩ => n198) (n198', (⟨#[]⟩ : ByteArray), 0) hl2 ⟨rfl, rfl, rfl, trivial⟩ (fun W h => h.phi (fun W hφ => hφ)) (fun ⟨n198, s149, i150⟩ u hlp => ?_)
  obtain ⟨o2, hm, hnx2⟩ := lp_step hlp
  clear hlp
  replace hm : m_ref03_Make_s2 p0 s149 i150 = some o2 := hm
  unfold m_ref03_Make_s2 at hm
  refine c_flat [(0, .slice Ap0_0 p0.length cp0_0), (4, .string s149), (5, .int .i64 i150)] ⟨rfl, rfl, rfl, trivial⟩ (fun u => ?_)
  refine c_sta ⟨w0, M, H, R, φ⟩ (fun _ h => h) <| c_seq <| c_seq <| c_region <| g_v rfl r_move <| g_v rfl r_move <| g_v rfl (r_lenL Try.underlying105 rfl) <| g_v rfl (r_lss rfl rfl) <| g_nil <| d_then ?_
  refine c_cond rfl (fun h199 => ?_) (fun h199 => ?_)
  ·
   replace hm := ite_t hm (of_decide_eq_true h199)
   refine c_skip <| d_then <| c_seq <| c_block <| c_seq <| c_seq <| c_region <| g_v rfl r_move <| g_v rfl r_move ?_
   replace hm := bnd hm
   obtain ⟨x200, hx200, hm⟩ := hm
   refine g_know _ (fun W hS => cl_at (p := (Sta.mk w0 M H R φ).ok) (sz := 1) (fun _ => rfl) (by decide) (ok_pre (H1 := []) (R1 := []) hS (fun W h => h)) fp0_0 hx200) ?_
   rintro ⟨ad201, hA203, f202⟩
   refine g_v rfl (r_ix Try.underlying105 Try.sizeOf9 rfl hA203 rfl hx200) <| g_v rfl (r_ld rfl Try.isAgg9 (fun W hS => Cl.head (f202 W (ok_pre (H1 := []) (R1 := []) hS (fun W h => h))))) <| g_v rfl (r_len Try.underlying9 rfl) <| g_v rfl (r_lss rfl rfl) <| g_v rfl r_move ?_
   refine g_if rfl rfl rfl rfl rfl (fun h204 => ?_) (fun h204 => ?_)
   ·
    replace hm := ite_f hm (of_decide_eq_false h204)
    refine g_v rfl r_move <| g_do rfl rfl rfl rfl rfl h204 <| g_v rfl r_move <| g_do rfl rfl rfl rfl rfl h204 ?_
    replace hm := bnd hm
    obtain ⟨x205, hx205, hm⟩ := hm
    refine g_know _ (fun W hS => cl_at (p := (Sta.mk w0 M H R φ).ok) (sz := 1) (fun _ => rfl) (by decide) (ok_pre (H1 := []) (R1 := []) hS (fun W h => h)) fp0_0 hx205) ?_
    rintro ⟨ad206, hA208, f207⟩
    refine g_v rfl (r_ix Try.underlying105 Try.sizeOf9 rfl hA208 rfl hx205) <| g_do rfl rfl rfl rfl rfl h204 <| g_v rfl (r_ld rfl Try.isAgg9 (fun W hS => Cl.head (f207 W (ok_pre (H1 := []) (R1 := []) hS (fun W h => h))))) <| g_do rfl rfl rfl rfl rfl h204 <| g_v rfl (r_len Try.underlying9 rfl) <| g_do rfl rfl rfl rfl rfl h204 <| g_v rfl (r_gtr rfl rfl) <| g_v rfl (r_pick0 rfl h204) <| g_nil <| d_then ?_
    refine c_flat [(0, .slice Ap0_0 p0.length cp0_0), (4, .string s149), (5, .int .i64 i150), (25, .bool (decide (63 < (x205.size : Int))))] ⟨rfl, rfl, rfl, rfl, trivial⟩ (fun u => ?_)
    refine c_cond rfl (fun h209 => ?_) (fun h209 => ?_)
    ·
     replace hm := ite_t hm (of_decide_eq_true h209)
     refine c_seq <| c_region <| g_v rfl r_assign <| g_v rfl r_assign <| g_nil <| d_then <| c_ret <| d_ret_then <| d_ret_block <| d_ret_then ?_
     refine d_ret_then <| d_ret_block <| d_ret_then <| d_ret_then ?_
     replace hm := nx_out (C := (fun e => Sum.elim (fun e => m_ref03_Make_j1 e) (fun x => some x) e = some r)) hm hnx2 hr2
     replace hm : some ((⟨#[]⟩ : ByteArray), 10) = some r := hm
     replace hm := Option.some.inj hm
     subst hm
     refine d_retC () Try.results99 ?_ trivial (fun W h => ok_pre (H1 := []) (R1 := []) h (fun W hφ => hφ)) (.inr rfl)
     refine res_tmp <| res_tmp <| res_nil ?_
     exact rfl
    ·
     replace hm := ite_f hm (of_decide_eq_false h209)
     refine c_skip <| d_then <| c_seq <| c_region <| g_v rfl r_move <| g_v rfl (r_len Try.underlying9 rfl) <| g_v rfl (r_leq rfl rfl) <| g_nil <| d_then ?_
     refine c_cond rfl (fun h210 => ?_) (fun h210 => ?_)
     ·
      replace hm := ite_t hm (of_decide_eq_true h210)
      refine ga_start (n := 16) ⟨w0, M, H, R, φ⟩ [] #[false, false, false, false, false, false, false, false, false, false, false, false, false, false, false, false] (fun W h => h.phi (fun W hφ => hφ)) mixed rfl rfl <| ga_v (i := 0) (bz 16 1) rfl (by kernel_rfl) (fun _ _ _ _ h => h) rfl (r_move) <| ga_v (i := 1) (bz 16 3) rfl (by kernel_rfl) (fun _ _ _ _ h => h) rfl (r_move) <| ga_v (i := 2) (bz 16 7) rfl (by kernel_rfl) (fun _ _ _ _ h => h) rfl (r_move) ?_
      replace hm := bnd hm
      obtain ⟨x233, hx233, hm⟩ := hm
      refine ga_know _ (fun W hS => cl_at (p := (Sta.mk w0 M H R φ).ok) (sz := 1) (fun _ => rfl) (by decide) (ok_pre (H1 := []) (R1 := []) hS (fun W h => h)) fp0_0 hx233) ?_
      rintro ⟨ad234, hA236, f235⟩
      refine ga_v (i := 3) (bz 16 15) rfl (by kernel_rfl) (fun _ _ _ _ h => h) rfl (r_ix Try.underlying105 Try.sizeOf9 rfl hA236 rfl hx233) <| ga_v (i := 4) (bz 16 31) rfl (by kernel_rfl) (fun _ _ _ _ h => h) rfl (r_ld rfl Try.isAgg9 (fun W hS => Cl.head (f235 W (ok_pre (H1 := []) (R1 := []) hS (fun W h => h))))) <| ga_v (i := 5) (bz 16 63) rfl (by kernel_rfl) (fun _ _ _ _ h => h) rfl (r_len Try.underlying9 rfl) <| ga_v (i := 6) (bz 16 127) rfl (by kernel_rfl) (fun _ _ _ _ h => h) rfl (r_conv Try.underlying3 Try.underlying5 rfl rfl) <| ga_v (i := 10) (bz 16 1151) rfl (by kernel_rfl) (fun _ _ _ _ h => h) rfl (r_move) <| ga_v (i := 11) (bz 16 3199) rfl (by kernel_rfl) (fun _ _ _ _ h => h) rfl (r_move) ?_
      replace hm := bnd hm
      obtain ⟨x237, hx237, hm⟩ := hm
      refine ga_know _ (fun W hS => cl_at (p := (Sta.mk w0 M H R φ).ok) (sz := 1) (fun _ => rfl) (by decide) (ok_pre (H1 := []) (R1 := []) hS (fun W h => h)) fp0_0 hx237) ?_
      rintro ⟨ad238, hA240, f239⟩
      refine ga_v (i := 12) (bz 16 7295) rfl (by kernel_rfl) (fun _ _ _ _ h => h) rfl (r_ix Try.underlying105 Try.sizeOf9 rfl hA240 rfl hx237) <| ga_v (i := 13) (bz 16 15487) rfl (by kernel_rfl) (fun _ _ _ _ h => h) rfl (r_ld rfl Try.isAgg9 (fun W hS => Cl.head (f239 W (ok_pre (H1 := []) (R1 := []) hS (fun W h => h))))) ?_
      refine ga_e (i := 7) (bz 16 15615) rfl (by kernel_rfl) (by decide) rfl  (e_lit (tag := 100360) (l := [IntKind.u8.wrap (x233.size : Int)]) (enc := (fun x : Int => [Value.int .u8 x])) (sz := 1) rfl Try.underlying77 (lit5_10 _) rfl rfl (fun _ => rfl)) (fun g241 W _ h => (h.dropR (t := 100360) rfl).phi (fun W hφ => hφ)) (fun g241 _ => ?_)
      refine ga_r (i := 8) (bz 16 15871) rfl (by kernel_rfl) (by decide) rfl (r_textE Try.underlying77 Try.underlying5 Try.underlying9 rfl (fun W hS => rowCl (tag := 100360) rfl W hS)) ?_
      replace hm := bnd hm
      obtain ⟨s242, hs242, hm⟩ := hm
      refine ga_r (i := 9) (bz 16 16383) rfl (by kernel_rfl) (by decide) rfl (r_addT rfl rfl hs242) ?_
      replace hm := bnd hm
      obtain ⟨s243, hs243, hm⟩ := hm
      refine ga_r (i := 14) (bz 16 32767) rfl (by kernel_rfl) (by decide) rfl (r_addT rfl rfl hs243) <| ga_r (i := 15) (bz 16 65535) rfl (by kernel_rfl) (by decide) rfl (r_assign) <| ga_done (by kernel_rfl) <| d_normal_block <| d_then ?_
      refine c_flat [(0, .slice Ap0_0 p0.length cp0_0), (4, .string s243), (5, .int .i64 i150)] ⟨rfl, rfl, rfl, trivial⟩ (fun u => ?_)
      refine c_sta ⟨w0, M, H, (100360, ⟨.slice (some ⟨g241, 0, none⟩) [IntKind.u8.wrap (x233.size : Int)].length 1, 5, 1, [IntKind.u8.wrap (x233.size : Int)].length, [IntKind.u8.wrap (x233.size : Int)].flatMap (fun x : Int => [Value.int .u8 x])⟩) :: R, φ⟩ (fun _ h => h) <| c_region <| g_v rfl r_move <| g_v rfl (r_add rfl rfl rfl) <| g_v rfl r_assign <| g_nil ?_
      obtain ⟨n244, hn244, hlp⟩ := nx_inl hm hnx2
      exact d_round (n244, s243, w64 (i150 + 1)) hlp hn244 ⟨rfl, rfl, rfl, trivial⟩ (fun W h => (h.dropR (t := 100360) rfl).phi (fun W hφ => hφ))
     ·
      replace hm := ite_f hm (of_decide_eq_false h210)
      refine c_skip <| d_normal_block <| d_then <| c_region <| g_v rfl r_move <| g_v rfl (r_add rfl rfl rfl) <| g_v rfl r_assign <| g_nil ?_
      obtain ⟨n245, hn245, hlp⟩ := nx_inl hm hnx2
      exact d_round (n245, s149, w64 (i150 + 1)) hlp hn245 ⟨rfl, rfl, rfl, trivial⟩ (fun W h => h.phi (fun W hφ => hφ))
   ·
    replace hm := ite_t hm (of_decide_eq_true h204)
    refine g_no rfl rfl rfl rfl rfl h204 <| g_no rfl rfl rfl rfl rfl h204 <| g_no rfl rfl rfl rfl rfl h204 <| g_no rfl rfl rfl rfl rfl h204 <| g_no rfl rfl rfl rfl rfl h204 <| g_v rfl (r_pick1 rfl h204) <| g_nil <| d_then ?_
    refine c_flat [(0, .slice Ap0_0 p0.length cp0_0), (4, .string s149), (5, .int .i64 i150), (25, .bool true)] ⟨rfl, rfl, rfl, rfl, trivial⟩ (fun u => ?_)
    refine c_cond1 rfl rfl <| c_seq <| c_region <| g_v rfl r_assign <| g_v rfl r_assign <| g_nil <| d_then <| c_ret <| d_ret_then <| d_ret_block ?_
    refine d_ret_then <| d_ret_then <| d_ret_block <| d_ret_then <| d_ret_then ?_
    replace hm := nx_out (C := (fun e => Sum.elim (fun e => m_ref03_Make_j1 e) (fun x => some x) e = some r)) hm hnx2 hr2
    replace hm : some ((⟨#[]⟩ : ByteArray), 10) = some r := hm
    replace hm := Option.some.inj hm
    subst hm
    refine d_retC () Try.results99 ?_ trivial (fun W h => ok_pre (H1 := []) (R1 := []) h (fun W hφ => hφ)) (.inr rfl)
    refine res_tmp <| res_tmp <| res_nil ?_
    exact rfl
  ·
   replace hm := ite_f hm (of_decide_eq_false h199)
   refine c_exit <| d_exit_then <| d_exit_then <| d_exit_block ?_
   replace hm := nx_out (C := (fun e => Sum.elim (fun e => m_ref03_Make_j1 e) (fun x => some x) e = some r)) hm hnx2 hr2
   exact d_round s149 hm Nat.zero_lt_one ⟨rfl, trivial⟩ (fun W h => h.phi (fun W hφ => hφ))
 ·
  unfold m_ref03_Make_j1 at hm
  refine d_flat [(4, .string s98)] ⟨rfl, trivial⟩ (fun u => ?_)
  refine d_sta ⟨w0, M, H, R, φ⟩ (fun _ h => h) <| d_then <| c_seq <| c_seq <| c_region <| g_v rfl r_move <| g_v rfl (r_len Try.underlying9 rfl) <| g_v rfl (r_gtr rfl rfl) <| g_nil <| d_then ?_
  refine c_cond rfl (fun h99 => ?_) (fun h99 => ?_)
  ·
   replace hm := ite_t hm (of_decide_eq_true h99)
   refine c_seq <| c_region <| g_v rfl r_assign <| g_v rfl r_assign <| g_nil <| d_then <| c_ret <| d_ret_then ?_
   replace hm := Option.some.inj hm
   subst hm
   refine d_retC () Try.results99 ?_ trivial (fun W h => ok_pre (H1 := []) (R1 := []) h (fun W hφ => hφ)) (.inr rfl)
   refine res_tmp <| res_tmp <| res_nil ?_
   exact rfl
  ·
   replace hm := ite_f hm (of_decide_eq_false h99)
   refine c_skip <| d_then <| c_seq <| c_region <| g_v rfl r_move ?_
   refine g_e rfl (e_lit (tag := 100480) (l := [0]) (enc := (fun x : Int => [Value.int .u8 x])) (sz := 1) rfl Try.underlying77 (lit5_10 _) rfl rfl (fun _ => rfl)) (fun g100 _ => ?_)
   refine g_v rfl (r_textE Try.underlying77 Try.underlying5 Try.underlying9 rfl (fun W hS => rowCl (tag := 100480) rfl W hS)) ?_
   replace hm := bnd hm
   obtain ⟨s101, hs101, hm⟩ := hm
   refine g_v rfl (r_addT rfl rfl hs101) <| g_v rfl r_assign <| g_v rfl r_assign <| g_nil <| d_then ?_
   refine c_flat [(2, .string s101), (3, .int .i64 0)] ⟨rfl, rfl, trivial⟩ (fun u => ?_)
   refine c_sta ⟨w0, M, H, (100480, ⟨.slice (some ⟨g100, 0, none⟩) [0].length 1, 5, 1, [0].length, [0].flatMap (fun x : Int => [Value.int .u8 x])⟩) :: R, φ⟩ (fun _ h => h) <| c_ret ?_
   replace hm := Option.some.inj hm
   subst hm
   refine d_retC () Try.results99 ?_ trivial (fun W h => ok_pre (H1 := []) (R1 := [_]) h (fun W hφ => hφ)) (.inr rfl)
   refine res_tmp <| res_tmp <| res_nil ?_
   exact rfl
noncomputable def m_ref04_Name_j2 (l191 : List ByteArray) (i249 : Int) : Option (((List ByteArray) × Int × Int × Int × Int) ⊕ (Unit ⊕ (ByteArray × Int × Int))) :=
  (m_ref03_Make l191).bind fun (z253 : ByteArray × Int) =>
  some (.inr (.inr (z253.1, i249, z253.2)))
noncomputable def m_ref04_Name_j3 (i197 : Int) (x256 : Int) (l191 : List ByteArray) (i195 : Int) (i263 : Int) : Option (((List ByteArray) × Int × Int × Int × Int) ⊕ (Unit ⊕ (ByteArray × Int × Int))) :=
  if i197 ≤ w64 (x256 - 49152) then
    some (.inr (.inr ((⟨#[]⟩ : ByteArray), 0, 10)))
  else
    some (.inl (l191, w64 (x256 - 49152), i195, i263, w64 (x256 - 49152)))
noncomputable def m_ref04_Name_s1 (p0 : ByteArray) (l191 : List ByteArray) (i194 : Int) (i195 : Int) (i196 : Int) (i197 : Int) : Option (((List ByteArray) × Int × Int × Int × Int) ⊕ (Unit ⊕ (ByteArray × Int × Int))) :=
  (m_ref04_Number p0 i194 1).bind fun (z245 : Int × Int × Int) =>
  if z245.2.2 ≠ 0 then
    some (.inr (.inr ((⟨#[]⟩ : ByteArray), 0, z245.2.2)))
  else
    if z245.1 = 0 then
      if i196 < 0 then
        m_ref04_Name_j2 l191 z245.2.1
      else
        m_ref04_Name_j2 l191 i196
    else
      if 192 ≤ z245.1 then
        (m_ref04_Number p0 i194 2).bind fun (z260 : Int × Int × Int) =>
        if z260.2.2 ≠ 0 then
          some (.inr (.inr ((⟨#[]⟩ : ByteArray), 0, z260.2.2)))
        else
          if i196 < 0 then
            m_ref04_Name_j3 i197 z260.1 l191 i195 z260.2.1
          else
            m_ref04_Name_j3 i197 z260.1 l191 i195 i196
      else
        if 63 < z245.1 then
          some (.inr (.inr ((⟨#[]⟩ : ByteArray), 0, 10)))
        else
          (m_ref04_Raw p0 z245.2.1 z245.1).bind fun (z272 : ByteArray × Int × Int) =>
          if z272.2.2 ≠ 0 then
            some (.inr (.inr ((⟨#[]⟩ : ByteArray), 0, z272.2.2)))
          else
            if 255 < w64 ((w64 (i195 + 1)) + z245.1) then
              some (.inr (.inr ((⟨#[]⟩ : ByteArray), 0, 11)))
            else
              (app 16 l191 [z272.1]).bind fun l276 =>
              some (.inl (l276, z272.2.1, w64 ((w64 (i195 + 1)) + z245.1), i196, i197))
noncomputable def m_ref04_Name (p0 : ByteArray) (p1 : Int) : Option (ByteArray × Int × Int) :=
  (loop (fun s => m_ref04_Name_s1 p0 s.1 s.2.1 s.2.2.1 s.2.2.2.1 s.2.2.2.2) (([] : List ByteArray), p1, 1, (-1), p1)).bind fun e => Sum.elim (fun e => (none : Option (ByteArray × Int × Int))) (fun x => some x) e
theorem c_ref04_Name {w0 : World} {M : Nat → Prop} {H : List (Nat × Nat × Obj)} {R : List (Nat × Row)} {φ : World → Prop} (p0 : ByteArray) (p1 : Int) (r : ByteArray × Int × Int) (hm : m_ref04_Name p0 p1 = some r) :
    Cn Try.prog 63 #[.string p0, .int .i64 p1] ⟨w0, M, H, R, φ⟩ (fun x : Unit => .tuple #[.string r.1, .int .i64 r.2.1, .int .i64 r.2.2]) (fun x => True) (fun x => ⟨w0, M, H, R, φ⟩) := by
 unfold m_ref04_Name at hm
 refine cn_intro (fn := Try.f63) (N := 93) Try.func63 rfl Try.ntmps63 rfl <| c_seq <| c_region <| g_v rfl r_assign <| g_v rfl r_assign <| g_v rfl r_assign <| g_nil <| d_then <| c_seq <| c_region ?_
 refine g_v rfl r_assign <| g_nil <| d_then <| c_seq <| c_region <| g_v rfl r_assign <| g_nil <| d_then <| c_seq <| c_region ?_
 refine g_v rfl r_assign <| g_nil <| d_then <| c_seq <| c_region <| g_v rfl r_move <| g_v rfl r_assign <| g_nil <| d_then ?_
 -- no way on
 refine c_block <| c_sta _ (fun W h => nilR h 14 9 1) ?_
 replace hm := bnd hm
 obtain ⟨out1, hl1, hr1⟩ := hm
 obtain ⟨n240', hl1⟩ := loop_lp hl1
 refine c_loopU (ι := Nat × (List ByteArray) × Int × Int × Int × Int × Option Addr × Nat) [0, 1, 7, 8, 9, 10] (fun ⟨n240, l191, i194, i195, i196, i197, A192, c193⟩ => [(1, .int .i64 i194), (7, .slice A192 l191.length c193), (8, .int .i64 i195), (9, .int .i64 i196), (10, .int .i64 i197)]) (fun ⟨n240, l191, i194, i195, i196, i197, A192, c193⟩ => ⟨w0, M, H, (14, ⟨.slice A192 l191.length c193, 9, 1, l191.length, l191.flatMap (fun x : ByteArray => [Value.string x])⟩) :: R, φ⟩) (fun ⟨n240, l191, i194, i195, i196, i197, A192, c193⟩ => Lp (fun s => m_ref04_Name_s1 p0 s.1 s.2.1 s.2.2.1 s.2.2.2.1 s.2.2.2.2) n240 (l191, i194, i195, i196, i197) out1 ∧ l191.length ≤ c193) (fun ⟨n240, l191, i194, i195, i196, i197, A192, c193⟩ => n240) (n240', ([] : List ByteArray), p1, 1, (-1), p1, none, 0) ⟨hl1, (Nat.le_refl 0)⟩ ⟨rfl, rfl, rfl, rfl, rfl, rfl, trivial⟩ (fun W h => h.phi (fun W hφ => hφ)) (fun ⟨n240, l191, i194, i195, i196, i197, A192, c193⟩ u ⟨hlp, hc193⟩ => ?_)
 obtain ⟨o1, hm, hnx1⟩ := lp_step hlp
 clear hlp
 replace hm : m_ref04_Name_s1 p0 l191 i194 i195 i196 i197 = some o1 := hm
 unfold m_ref04_Name_s1 at hm
 refine c_flat [(0, .string p0), (1, .int .i64 i194), (7, .slice A192 l191.length c193), (8, .int .i64 i195), (9, .int .i64 i196), (10, .int .i64 i197)] ⟨rfl, rfl, rfl, rfl, rfl, rfl, trivial⟩ (fun u => ?_)
 refine c_sta ⟨w0, M, H, (14, ⟨.slice A192 l191.length c193, 9, 1, l191.length, l191.flatMap (fun x : ByteArray => [Value.string x])⟩) :: R, φ⟩ (fun _ h => h) <| c_block <| c_seq <| c_region <| g_v rfl r_move <| g_v rfl r_move ?_
 replace hm := bnd hm
 obtain ⟨⟨x241, x242, x243⟩, hx244, hm⟩ := hm
 refine g_cn ⟨w0, M, _, _, φ⟩ (fun _ h => h) Try.call64 rfl rfl (c_ref04_Number p0 i194 1 _ hx244) (fun _ _ => ?_)
 refine g_v rfl r_move <| g_v rfl (r_extract rfl rfl) <| g_v rfl (r_extract rfl rfl) <| g_v rfl (r_extract rfl rfl) <| g_v rfl r_assign <| g_v rfl r_assign <| g_v rfl r_assign <| g_nil <| d_then ?_
 refine c_flat [(0, .string p0), (1, .int .i64 i194), (7, .slice A192 l191.length c193), (8, .int .i64 i195), (9, .int .i64 i196), (10, .int .i64 i197), (11, .int .i64 x241), (12, .int .i64 x242), (13, .int .i64 x243)] ⟨rfl, rfl, rfl, rfl, rfl, rfl, rfl, rfl, rfl, trivial⟩ (fun u => ?_)
 refine c_seq <| c_seq <| c_region <| g_v rfl r_move <| g_v rfl (r_neq rfl rfl) <| g_nil <| d_then ?_
 refine c_cond rfl (fun h246 => ?_) (fun h246 => ?_)
 ·
  replace hm := ite_t hm (of_decide_eq_true h246)
  refine c_seq <| c_region <| g_v rfl r_move <| g_v rfl r_assign <| g_v rfl r_assign <| g_v rfl r_assign <| g_nil <| d_then <| c_ret <| d_ret_then ?_
  refine d_ret_block <| d_ret_then <| d_ret_block ?_
  replace hm := nx_out (C := (fun e => Sum.elim (fun e => (none : Option (ByteArray × Int × Int))) (fun x => some x) e = some r)) hm hnx1 hr1
  replace hm : some ((⟨#[]⟩ : ByteArray), 0, x243) = some r := hm
  replace hm := Option.some.inj hm
  subst hm
  refine d_retC () Try.results63 ?_ trivial (fun W h => ok_pre (H1 := []) (R1 := [_]) h (fun W hφ => hφ)) (.inr rfl)
  refine res_tmp <| res_tmp <| res_tmp <| res_nil ?_
  exact rfl
 ·
  replace hm := ite_f hm (of_decide_eq_false h246)
  refine c_skip <| d_then <| c_seq <| c_seq <| c_region <| g_v rfl r_move <| g_v rfl (r_eql rfl rfl) <| g_nil <| d_then ?_
  refine c_cond rfl (fun h247 => ?_) (fun h247 => ?_)
  ·
   replace hm := ite_t hm (of_decide_eq_true h247)
   refine c_seq ?_
   refine c_cut (ι := Int) [7, 9] (fun i249 => [(9, .int .i64 i249)]) (fun i249 => ⟨w0, M, H, (14, ⟨.slice A192 l191.length c193, 9, 1, l191.length, l191.flatMap (fun x : ByteArray => [Value.string x])⟩) :: R, φ⟩) (fun i249 => m_ref04_Name_j2 l191 i249 = some o1) ?_ (fun i249 u hm => ?_)
   ·
    refine c_seq <| c_region <| g_v rfl r_move <| g_v rfl (r_lss rfl rfl) <| g_nil <| d_then ?_
    refine c_cond rfl (fun h254 => ?_) (fun h254 => ?_)
    ·
     replace hm := ite_t hm (of_decide_eq_true h254)
     refine c_region <| g_v rfl r_move <| g_v rfl r_assign <| g_nil ?_
     exact d_round x242 hm Nat.zero_lt_one ⟨rfl, rfl, trivial⟩ (fun W h => h.phi (fun W hφ => hφ))
    ·
     replace hm := ite_f hm (of_decide_eq_false h254)
     refine c_skip ?_
     exact d_round i196 hm Nat.zero_lt_one ⟨rfl, rfl, trivial⟩ (fun W h => h.phi (fun W hφ => hφ))
   ·
    unfold m_ref04_Name_j2 at hm
    refine d_flat [(7, .slice A192 l191.length c193), (9, .int .i64 i249)] ⟨rfl, rfl, trivial⟩ (fun u => ?_)
    refine d_then <| c_seq <| c_region <| g_v rfl r_move ?_
    replace hm := bnd hm
    obtain ⟨⟨x250, x251⟩, hx252, hm⟩ := hm
    refine g_cn ⟨w0, M, _, _, φ⟩ (fun _ h => h) Try.call99 rfl rfl (c_ref03_Make l191 A192 c193 hc193 (fun W hS => rowCl (tag := 14) rfl W hS) _ hx252) (fun _ _ => ?_)
    refine g_v rfl r_move <| g_v rfl (r_extract rfl rfl) <| g_v rfl (r_extract rfl rfl) <| g_v rfl r_assign <| g_v rfl r_assign <| g_nil <| d_then <| c_seq <| c_region <| g_v rfl r_move ?_
    refine g_v rfl r_move <| g_v rfl r_move <| g_v rfl r_assign <| g_v rfl r_assign <| g_v rfl r_assign <| g_nil <| d_then ?_
    refine c_flat [(4, .string x250), (5, .int .i64 i249), (6, .int .i64 x251)] ⟨rfl, rfl, rfl, trivial⟩ (fun u => ?_)
    refine c_ret <| d_ret_then <| d_ret_block <| d_ret_then <| d_ret_block ?_
    replace hm := nx_out (C := (fun e => Sum.elim (fun e => (none : Option (ByteArray × Int × Int))) (fun x => some x) e = some r)) hm hnx1 hr1
    replace hm : some (x250, i249, x251) = some r := hm
    replace hm := Option.some.inj hm
    subst hm
    refine d_retC () Try.results63 ?_ trivial (fun W h => ok_pre (H1 := []) (R1 := [_]) h (fun W hφ => hφ)) (.inr rfl)
    refine res_tmp <| res_tmp <| res_tmp <| res_nil ?_
    exact rfl
  ·
   replace hm := ite_f hm (of_decide_eq_false h247)
   refine c_skip <| d_then <| c_seq <| c_seq <| c_region <| g_v rfl r_move <| g_v rfl (r_geq rfl rfl) <| g_nil <| d_then ?_
   refine c_cond rfl (fun h255 => ?_) (fun h255 => ?_)
   ·
    replace hm := ite_t hm (of_decide_eq_true h255)
    refine c_seq <| c_region <| g_v rfl r_move <| g_v rfl r_move ?_
    replace hm := bnd hm
    obtain ⟨⟨x256, x257, x258⟩, hx259, hm⟩ := hm
    refine g_cn ⟨w0, M, _, _, φ⟩ (fun _ h => h) Try.call64 rfl rfl (c_ref04_Number p0 i194 2 _ hx259) (fun _ _ => ?_)
    refine g_v rfl r_move <| g_v rfl (r_extract rfl rfl) <| g_v rfl (r_extract rfl rfl) <| g_v rfl (r_extract rfl rfl) <| g_v rfl r_assign <| g_v rfl r_assign <| g_v rfl r_assign <| g_nil <| d_then ?_
    refine c_flat [(0, .string p0), (7, .slice A192 l191.length c193), (8, .int .i64 i195), (9, .int .i64 i196), (10, .int .i64 i197), (16, .int .i64 x256), (17, .int .i64 x257), (18, .int .i64 x258)] ⟨rfl, rfl, rfl, rfl, rfl, rfl, rfl, rfl, trivial⟩ (fun u => ?_)
    refine c_seq <| c_seq <| c_region <| g_v rfl r_move <| g_v rfl (r_neq rfl rfl) <| g_nil <| d_then ?_
    refine c_cond rfl (fun h261 => ?_) (fun h261 => ?_)
    ·
     replace hm := ite_t hm (of_decide_eq_true h261)
     refine c_seq <| c_region <| g_v rfl r_move <| g_v rfl r_assign <| g_v rfl r_assign <| g_v rfl r_assign <| g_nil <| d_then <| c_ret <| d_ret_then ?_
     refine d_ret_then <| d_ret_block <| d_ret_then <| d_ret_block ?_
     replace hm := nx_out (C := (fun e => Sum.elim (fun e => (none : Option (ByteArray × Int × Int))) (fun x => some x) e = some r)) hm hnx1 hr1
     replace hm : some ((⟨#[]⟩ : ByteArray), 0, x258) = some r := hm
     replace hm := Option.some.inj hm
     subst hm
     refine d_retC () Try.results63 ?_ trivial (fun W h => ok_pre (H1 := []) (R1 := [_]) h (fun W hφ => hφ)) (.inr rfl)
     refine res_tmp <| res_tmp <| res_tmp <| res_nil ?_
     exact rfl
    ·
     replace hm := ite_f hm (of_decide_eq_false h261)
     refine c_skip <| d_then <| c_seq ?_
     refine c_cut (ι := Int) [0, 7, 8, 9, 10, 16] (fun i263 => [(9, .int .i64 i263)]) (fun i263 => ⟨w0, M, H, (14, ⟨.slice A192 l191.length c193, 9, 1, l191.length, l191.flatMap (fun x : ByteArray => [Value.string x])⟩) :: R, φ⟩) (fun i263 => m_ref04_Name_j3 i197 x256 l191 i195 i263 = some o1) ?_ (fun i263 u hm => ?_)
     ·
      refine c_seq <| c_region <| g_v rfl r_move <| g_v rfl (r_lss rfl rfl) <| g_nil <| d_then ?_
      refine c_cond rfl (fun h266 => ?_) (fun h266 => ?_)
      ·
       replace hm := ite_t hm (of_decide_eq_true h266)
       refine c_region <| g_v rfl r_move <| g_v rfl r_assign <| g_nil ?_
       exact d_round x257 hm Nat.zero_lt_one ⟨rfl, rfl, rfl, rfl, rfl, rfl, trivial⟩ (fun W h => h.phi (fun W hφ => hφ))
      ·
       replace hm := ite_f hm (of_decide_eq_false h266)
       refine c_skip ?_
       exact d_round i196 hm Nat.zero_lt_one ⟨rfl, rfl, rfl, rfl, rfl, rfl, trivial⟩ (fun W h => h.phi (fun W hφ => hφ))
     ·
      unfold m_ref04_Name_j3 at hm
      refine d_flat [(0, .string p0), (7, .slice A192 l191.length c193), (8, .int .i64 i195), (9, .int .i64 i263), (10, .int .i64 i197), (16, .int .i64 x256)] ⟨rfl, rfl, rfl, rfl, rfl, rfl, trivial⟩ (fun u => ?_)
      refine d_then <| c_seq <| c_region <| g_v rfl r_move <| g_v rfl (r_sub rfl rfl rfl) <| g_v rfl r_assign <| g_nil <| d_then <| c_seq <| c_seq ?_
      refine c_region <| g_v rfl r_move <| g_v rfl r_move <| g_v rfl (r_geq rfl rfl) <| g_nil <| d_then ?_
      refine c_cond rfl (fun h264 => ?_) (fun h264 => ?_)
      ·
       replace hm := ite_t hm (of_decide_eq_true h264)
       refine c_seq <| c_region <| g_v rfl r_assign <| g_v rfl r_assign <| g_v rfl r_assign <| g_nil <| d_then ?_
       refine c_flat [(4, .string (⟨#[]⟩ : ByteArray)), (5, .int .i64 0), (6, .int .i64 10)] ⟨rfl, rfl, rfl, trivial⟩ (fun u => ?_)
       refine c_ret <| d_ret_then <| d_ret_then <| d_ret_block <| d_ret_then <| d_ret_block ?_
       replace hm := nx_out (C := (fun e => Sum.elim (fun e => (none : Option (ByteArray × Int × Int))) (fun x => some x) e = some r)) hm hnx1 hr1
       replace hm : some ((⟨#[]⟩ : ByteArray), 0, 10) = some r := hm
       replace hm := Option.some.inj hm
       subst hm
       refine d_retC () Try.results63 ?_ trivial (fun W h => ok_pre (H1 := []) (R1 := [_]) h (fun W hφ => hφ)) (.inr rfl)
       refine res_tmp <| res_tmp <| res_tmp <| res_nil ?_
       exact rfl
      ·
       replace hm := ite_f hm (of_decide_eq_false h264)
       refine c_skip <| d_then <| c_seq <| c_region <| g_v rfl r_move <| g_v rfl r_assign <| g_nil <| d_then <| c_seq <| c_region ?_
       refine g_v rfl r_move <| g_v rfl r_assign <| g_nil <| d_then ?_
       refine c_flat [(0, .string p0), (1, .int .i64 (w64 (x256 - 49152))), (7, .slice A192 l191.length c193), (8, .int .i64 i195), (9, .int .i64 i263), (10, .int .i64 (w64 (x256 - 49152)))] ⟨rfl, rfl, rfl, rfl, rfl, rfl, trivial⟩ (fun u => ?_)
       refine c_exit <| d_exit_then <| d_exit_block ?_
       obtain ⟨n265, hn265, hlp⟩ := nx_inl hm hnx1
       exact d_round (n265, l191, w64 (x256 - 49152), i195, i263, w64 (x256 - 49152), A192, c193) ⟨hlp, hc193⟩ hn265 ⟨rfl, rfl, rfl, rfl, rfl, rfl, trivial⟩ (fun W h => h.phi (fun W hφ => hφ))
   ·
    replace hm := ite_f hm (of_decide_eq_false h255)
    refine c_skip <| d_then <| c_seq <| c_seq <| c_region <| g_v rfl r_move <| g_v rfl (r_gtr rfl rfl) <| g_nil <| d_then ?_
    refine c_cond rfl (fun h267 => ?_) (fun h267 => ?_)
    ·
     replace hm := ite_t hm (of_decide_eq_true h267)
     refine c_seq <| c_region <| g_v rfl r_assign <| g_v rfl r_assign <| g_v rfl r_assign <| g_nil <| d_then ?_
     refine c_flat [(4, .string (⟨#[]⟩ : ByteArray)), (5, .int .i64 0), (6, .int .i64 10)] ⟨rfl, rfl, rfl, trivial⟩ (fun u => ?_)
     refine c_ret <| d_ret_then <| d_ret_block <| d_ret_then <| d_ret_block ?_
     replace hm := nx_out (C := (fun e => Sum.elim (fun e => (none : Option (ByteArray × Int × Int))) (fun x => some x) e = some r)) hm hnx1 hr1
     replace hm : some ((⟨#[]⟩ : ByteArray), 0, 10) = some r := hm
     replace hm := Option.some.inj hm
     subst hm
     refine d_retC () Try.results63 ?_ trivial (fun W h => ok_pre (H1 := []) (R1 := [_]) h (fun W hφ => hφ)) (.inr rfl)
     refine res_tmp <| res_tmp <| res_tmp <| res_nil ?_
     exact rfl
    ·
     replace hm := ite_f hm (of_decide_eq_false h267)
     refine c_skip <| d_then <| c_seq <| c_region <| g_v rfl r_move <| g_v rfl r_move <| g_v rfl r_move ?_
     replace hm := bnd hm
     obtain ⟨⟨x268, x269, x270⟩, hx271, hm⟩ := hm
     refine g_cn ⟨w0, M, _, _, φ⟩ (fun _ h => h) Try.call65 rfl rfl (c_ref04_Raw p0 x242 x241 _ hx271) (fun _ _ => ?_)
     refine g_v rfl r_move <| g_v rfl (r_extract rfl rfl) <| g_v rfl (r_extract rfl rfl) <| g_v rfl (r_extract rfl rfl) <| g_v rfl r_assign <| g_v rfl r_assign <| g_v rfl r_assign <| g_nil <| d_then ?_
     refine c_flat [(0, .string p0), (7, .slice A192 l191.length c193), (8, .int .i64 i195), (9, .int .i64 i196), (10, .int .i64 i197), (11, .int .i64 x241), (20, .string x268), (21, .int .i64 x269), (22, .int .i64 x270)] ⟨rfl, rfl, rfl, rfl, rfl, rfl, rfl, rfl, rfl, trivial⟩ (fun u => ?_)
     refine c_seq <| c_seq <| c_region <| g_v rfl r_move <| g_v rfl (r_neq rfl rfl) <| g_nil <| d_then ?_
     refine c_cond rfl (fun h273 => ?_) (fun h273 => ?_)
     ·
      replace hm := ite_t hm (of_decide_eq_true h273)
      refine c_seq <| c_region <| g_v rfl r_move <| g_v rfl r_assign <| g_v rfl r_assign <| g_v rfl r_assign <| g_nil <| d_then <| c_ret <| d_ret_then ?_
      refine d_ret_block <| d_ret_then <| d_ret_block ?_
      replace hm := nx_out (C := (fun e => Sum.elim (fun e => (none : Option (ByteArray × Int × Int))) (fun x => some x) e = some r)) hm hnx1 hr1
      replace hm : some ((⟨#[]⟩ : ByteArray), 0, x270) = some r := hm
      replace hm := Option.some.inj hm
      subst hm
      refine d_retC () Try.results63 ?_ trivial (fun W h => ok_pre (H1 := []) (R1 := [_]) h (fun W hφ => hφ)) (.inr rfl)
      refine res_tmp <| res_tmp <| res_tmp <| res_nil ?_
      exact rfl
     ·
      replace hm := ite_f hm (of_decide_eq_false h273)
      refine c_skip <| d_then <| c_seq <| c_region <| g_v rfl r_move <| g_v rfl (r_add rfl rfl rfl) <| g_v rfl r_move <| g_v rfl (r_add rfl rfl rfl) <| g_v rfl r_assign <| g_nil ?_
      refine d_then <| c_seq <| c_seq <| c_region <| g_v rfl r_move <| g_v rfl (r_gtr rfl rfl) <| g_nil <| d_then ?_
      refine c_flat [(0, .string p0), (7, .slice A192 l191.length c193), (8, .int .i64 (w64 ((w64 (i195 + 1)) + x241))), (9, .int .i64 i196), (10, .int .i64 i197), (20, .string x268), (21, .int .i64 x269), (87, .bool (decide (255 < w64 ((w64 (i195 + 1)) + x241))))] ⟨rfl, rfl, rfl, rfl, rfl, rfl, rfl, rfl, trivial⟩ (fun u => ?_)
      refine c_cond rfl (fun h274 => ?_) (fun h274 => ?_)
      ·
       replace hm := ite_t hm (of_decide_eq_true h274)
       refine c_seq <| c_region <| g_v rfl r_assign <| g_v rfl r_assign <| g_v rfl r_assign <| g_nil <| d_then <| c_ret <| d_ret_then <| d_ret_block ?_
       refine d_ret_then <| d_ret_block ?_
       replace hm := nx_out (C := (fun e => Sum.elim (fun e => (none : Option (ByteArray × Int × Int))) (fun x => some x) e = some r)) hm hnx1 hr1
       replace hm : some ((⟨#[]⟩ : ByteArray), 0, 11) = some r := hm
       replace hm := Option.some.inj hm
       subst hm
       refine d_retC () Try.results63 ?_ trivial (fun W h => ok_pre (H1 := []) (R1 := [_]) h (fun W hφ => hφ)) (.inr rfl)
       refine res_tmp <| res_tmp <| res_tmp <| res_nil ?_
       exact rfl
      ·
       replace hm := ite_f hm (of_decide_eq_false h274)
       refine c_skip <| d_then <| c_seq <| c_region <| g_v rfl r_move <| g_v rfl r_move ?_
       refine g_e rfl (e_lit (tag := 100900) (l := [x268]) (enc := (fun x : ByteArray => [Value.string x])) (sz := 1) rfl Try.underlying105 (lit9_7 _) rfl rfl (fun _ => rfl)) (fun g275 _ => ?_)
       replace hm := bnd hm
       obtain ⟨l276, hl276, hm⟩ := hm
       refine g_e rfl (e_appR (enc := (fun x : ByteArray => [Value.string x])) (l := l191) (l1 := [x268]) (l2 := l276) (tag := 14) Try.underlying105 inf9_8 rfl (by decide) (by decide) (fun _ => rfl) (fun _ => rfl) rfl hc193 rfl rfl (fun W hS => rowCl (tag := 100900) rfl W hS) hl276) (fun ⟨A277, c278⟩ hc278 => ?_)
       refine g_v rfl r_assign <| g_nil <| d_then <| c_region <| g_v rfl r_move <| g_v rfl r_assign <| g_nil <| d_normal_block ?_
       obtain ⟨n279, hn279, hlp⟩ := nx_inl hm hnx1
       exact d_round (n279, l276, x269, w64 ((w64 (i195 + 1)) + x241), i196, i197, A277, c278) ⟨hlp, hc278⟩ hn279 ⟨rfl, rfl, rfl, rfl, rfl, rfl, trivial⟩ (fun W h => (h.dropR (t := 100900) rfl).phi (fun W hφ => hφ))
theorem bld27_26 (z0 : ByteArray) (z1 : Int) (z2 : Int) (z3 : Int) (z4 : ByteArray) : ∀ W, (Instr.build 27 #[(0, .string z0), (1, .int .u16 z1), (2, .int .u16 z2), (3, .int .u32 z3), (4, .string z4)]).run Try.prog W = .ok (.agg #[.string z0, .int .u16 z1, .int .u16 z2, .int .u32 z3, .string z4]) W := fun _ => by kernel_rfl
noncomputable def m_ref05_head_j1 (p0 : Int) (b3 : Bool) : Option (Int × Int × Int × Bool) :=
  if b3 = true then
    some (0, 1, 0, true)
  else
    if p0 = 15 then
      some (2, 1, 0, true)
    else
      if p0 = 6 then
        some (0, 2, 20, true)
      else
        some (0, 0, 0, false)
noncomputable def m_ref05_head (p0 : Int) : Option (Int × Int × Int × Bool) :=
  if p0 = 2 then
    m_ref05_head_j1 p0 (decide (p0 = 2))
  else
    if p0 = 5 then
      m_ref05_head_j1 p0 (decide (p0 = 5))
    else
      m_ref05_head_j1 p0 (decide (p0 = 12))
theorem c_ref05_head {w0 : World} {M : Nat → Prop} {H : List (Nat × Nat × Obj)} {R : List (Nat × Row)} {φ : World → Prop} (p0 : Int) (r : Int × Int × Int × Bool) (hm : m_ref05_head p0 = some r) :
    Cn Try.prog 66 #[.int .u16 p0] ⟨w0, M, H, R, φ⟩ (fun x : Unit => .tuple #[.int .i64 r.1, .int .i64 r.2.1, .int .i64 r.2.2.1, .bool r.2.2.2]) (fun x => True) (fun x => ⟨w0, M, H, R, φ⟩) := by
 unfold m_ref05_head at hm
 refine cn_intro (fn := Try.f66) (N := 15) Try.func66 rfl Try.ntmps66 rfl <| c_seq <| c_region <| g_v rfl r_assign <| g_v rfl r_assign <| g_v rfl r_assign <| g_v rfl r_assign <| g_nil <| d_then <| c_seq ?_
 refine c_seq <| c_region <| g_v rfl r_move <| g_nil <| d_then <| c_block <| c_seq ?_
 refine c_cut (ι := Bool) [6, 7] (fun b3 => [(7, .bool b3)]) (fun b3 => ⟨w0, M, H, R, φ⟩) (fun b3 => m_ref05_head_j1 p0 b3 = some r) ?_ (fun b3 u hm => ?_)
 ·
  refine c_seq <| c_region <| g_v rfl (r_eql rfl rfl) <| g_v rfl r_assign <| g_nil <| d_then ?_
  refine c_cond rfl (fun h7 => ?_) (fun h7 => ?_)
  ·
   replace hm := ite_t hm (of_decide_eq_true h7)
   refine c_skip ?_
   exact d_round (decide (p0 = 2)) hm Nat.zero_lt_one ⟨rfl, rfl, trivial⟩ (fun W h => h.phi (fun W hφ => hφ))
  ·
   replace hm := ite_f hm (of_decide_eq_false h7)
   refine c_seq <| c_region <| g_v rfl (r_eql rfl rfl) <| g_v rfl r_assign <| g_nil <| d_then ?_
   refine c_flat [(6, .int .u16 p0), (7, .bool (decide (p0 = 5)))] ⟨rfl, rfl, trivial⟩ (fun u => ?_)
   refine c_sta ⟨w0, M, H, R, φ⟩ (fun _ h => h) ?_
   refine c_cond rfl (fun h8 => ?_) (fun h8 => ?_)
   ·
    replace hm := ite_t hm (of_decide_eq_true h8)
    refine c_skip ?_
    exact d_round (decide (p0 = 5)) hm Nat.zero_lt_one ⟨rfl, rfl, trivial⟩ (fun W h => h.phi (fun W hφ => hφ))
   ·
    replace hm := ite_f hm (of_decide_eq_false h8)
    refine c_region <| g_v rfl (r_eql rfl rfl) <| g_v rfl r_assign <| g_nil ?_
    exact d_round (decide (p0 = 12)) hm Nat.zero_lt_one ⟨rfl, rfl, trivial⟩ (fun W h => h.phi (fun W hφ => hφ))
 ·
  unfold m_ref05_head_j1 at hm
  refine d_flat [(6, .int .u16 p0), (7, .bool b3)] ⟨rfl, rfl, trivial⟩ (fun u => ?_)
  refine d_sta ⟨w0, M, H, R, φ⟩ (fun _ h => h) <| d_then ?_
  refine c_cond rfl (fun h4 => ?_) (fun h4 => ?_)
  ·
   replace hm := ite_t hm h4
   refine c_seq <| c_region <| g_v rfl r_assign <| g_v rfl r_assign <| g_v rfl r_assign <| g_v rfl r_assign <| g_nil <| d_then <| c_ret <| d_ret_block ?_
   refine d_ret_then ?_
   replace hm := Option.some.inj hm
   subst hm
   refine d_retC () Try.results66 ?_ trivial (fun W h => ok_pre (H1 := []) (R1 := []) h (fun W hφ => hφ)) (.inr rfl)
   refine res_tmp <| res_tmp <| res_tmp <| res_tmp <| res_nil ?_
   exact rfl
  ·
   replace hm := ite_f hm (bool_nt h4)
   refine c_seq <| c_region <| g_v rfl (r_eql rfl rfl) <| g_v rfl r_assign <| g_nil <| d_then ?_
   refine c_cond rfl (fun h5 => ?_) (fun h5 => ?_)
   ·
    replace hm := ite_t hm (of_decide_eq_true h5)
    refine c_seq <| c_region <| g_v rfl r_assign <| g_v rfl r_assign <| g_v rfl r_assign <| g_v rfl r_assign <| g_nil <| d_then <| c_ret <| d_ret_block ?_
    refine d_ret_then ?_
    replace hm := Option.some.inj hm
    subst hm
    refine d_retC () Try.results66 ?_ trivial (fun W h => ok_pre (H1 := []) (R1 := []) h (fun W hφ => hφ)) (.inr rfl)
    refine res_tmp <| res_tmp <| res_tmp <| res_tmp <| res_nil ?_
    exact rfl
   ·
    replace hm := ite_f hm (of_decide_eq_false h5)
    refine c_seq <| c_region <| g_v rfl (r_eql rfl rfl) <| g_v rfl r_assign <| g_nil <| d_then ?_
    refine c_cond rfl (fun h6 => ?_) (fun h6 => ?_)
    ·
     replace hm := ite_t hm (of_decide_eq_true h6)
     refine c_seq <| c_region <| g_v rfl r_assign <| g_v rfl r_assign <| g_v rfl r_assign <| g_v rfl r_assign <| g_nil <| d_then <| c_ret <| d_ret_block ?_
     refine d_ret_then ?_
     replace hm := Option.some.inj hm
     subst hm
     refine d_retC () Try.results66 ?_ trivial (fun W h => ok_pre (H1 := []) (R1 := []) h (fun W hφ => hφ)) (.inr rfl)
     refine res_tmp <| res_tmp <| res_tmp <| res_tmp <| res_nil ?_
     exact rfl
    ·
     replace hm := ite_f hm (of_decide_eq_false h6)
     refine c_skip <| d_normal_block <| d_then <| c_seq <| c_region <| g_v rfl r_assign <| g_v rfl r_assign <| g_v rfl r_assign <| g_v rfl r_assign <| g_nil ?_
     refine d_then <| c_ret ?_
     replace hm := Option.some.inj hm
     subst hm
     refine d_retC () Try.results66 ?_ trivial (fun W h => ok_pre (H1 := []) (R1 := []) h (fun W hφ => hφ)) (.inr rfl)
     refine res_tmp <| res_tmp <| res_tmp <| res_tmp <| res_nil ?_
     exact rfl
noncomputable def m_ref03_row_j1 (p0 : ByteArray) (l82 : List ByteArray) (i85 : Int) : Option ((List ByteArray) × Bool) :=
  some (l82, decide (i85 = w64 ((p0.size : Int) - 1)))
noncomputable def m_ref03_row_s2 (p0 : ByteArray) (l101 : List ByteArray) (i104 : Int) : Option (((List ByteArray) × Int) ⊕ (((List ByteArray) × Int) ⊕ ((List ByteArray) × Bool))) :=
  if i104 < (p0.size : Int) then
    (sat_ p0 i104).bind fun b122 =>
    if b122 ≠ 0 then
      (sat_ p0 i104).bind fun b124 =>
      if 63 < w64 b124 then
        some (.inr (.inr (([] : List ByteArray), false)))
      else
        if (p0.size : Int) < w64 ((w64 (i104 + 1)) + (w64 b124)) then
          some (.inr (.inr (([] : List ByteArray), false)))
        else
          (scutMid p0 (w64 (i104 + 1)) (w64 ((w64 (i104 + 1)) + (w64 b124)))).bind fun s127 =>
          (app 16 l101 [s127]).bind fun l129 =>
          some (.inl (l129, w64 ((w64 (i104 + 1)) + (w64 b124))))
    else
      some (.inr (.inl (l101, i104)))
  else
    some (.inr (.inl (l101, i104)))
noncomputable def m_ref03_row (p0 : ByteArray) : Option ((List ByteArray) × Bool) :=
  (loop (fun s => m_ref03_row_s2 p0 s.1 s.2) (([] : List ByteArray), 0)).bind fun e => Sum.elim (fun e => m_ref03_row_j1 p0 e.1 e.2) (fun x => some x) e
theorem c_ref03_row {w0 : World} {M : Nat → Prop} {H : List (Nat × Nat × Obj)} {R : List (Nat × Row)} {φ : World → Prop} (p0 : ByteArray) (r : (List ByteArray) × Bool) (hm : m_ref03_row p0 = some r) :
    Cn Try.prog 106 #[.string p0] ⟨w0, M, H, R, φ⟩ (fun x : Option Addr × Nat => .tuple #[.slice x.1 r.1.length x.2, .bool r.2]) (fun x => r.1.length ≤ x.2) (fun x => ⟨w0, M, H, (2000, ⟨.slice x.1 r.1.length x.2, 9, 1, r.1.length, r.1.flatMap (fun x : ByteArray => [Value.string x])⟩) :: R, φ⟩) := by
 unfold m_ref03_row at hm
 refine cn_intro (fn := Try.f106) (N := 53) Try.func106 rfl Try.ntmps106 rfl <| c_seq <| c_region <| g_v rfl r_assign <| g_v rfl r_assign <| g_nil <| d_then <| c_seq <| c_region <| g_v rfl r_assign ?_
 refine g_nil <| d_then <| c_seq <| c_region <| g_v rfl r_assign <| g_nil <| d_then <| c_seq <| c_sta _ (fun W h => nilR h 19 9 1) ?_
 refine c_cut (ι := (List ByteArray) × Int × Option Addr × Nat) [0, 4, 5] (fun ⟨l82, i85, A83, c84⟩ => [(4, .slice A83 l82.length c84), (5, .int .i64 i85)]) (fun ⟨l82, i85, A83, c84⟩ => ⟨w0, M, H, (19, ⟨.slice A83 l82.length c84, 9, 1, l82.length, l82.flatMap (fun x : ByteArray => [Value.string x])⟩) :: R, φ⟩) (fun ⟨l82, i85, A83, c84⟩ => m_ref03_row_j1 p0 l82 i85 = some r ∧ l82.length ≤ c84) ?_ (fun ⟨l82, i85, A83, c84⟩ u ⟨hm, hc84⟩ => ?_)
 ·
  refine c_block ?_
  replace hm := bnd hm
  obtain ⟨out2, hl2, hr2⟩ := hm
  obtain ⟨n120', hl2⟩ := loop_lp hl2
  refine c_loopU (ι := Nat × (List ByteArray) × Int × Option Addr × Nat) [0, 4, 5] (fun ⟨n120, l101, i104, A102, c103⟩ => [(4, .slice A102 l101.length c103), (5, .int .i64 i104)]) (fun ⟨n120, l101, i104, A102, c103⟩ => ⟨w0, M, H, (19, ⟨.slice A102 l101.length c103, 9, 1, l101.length, l101.flatMap (fun x : ByteArray => [Value.string x])⟩) :: R, φ⟩) (fun ⟨n120, l101, i104, A102, c103⟩ => Lp (fun s => m_ref03_row_s2 p0 s.1 s.2) n120 (l101, i104) out2 ∧ l101.length ≤ c103) (fun ⟨n120, l101, i104, A102, c103⟩ => n120) (n120', ([] : List ByteArray), 0, none, 0) ⟨hl2, (Nat.le_refl 0)⟩ ⟨rfl, rfl, rfl, trivial⟩ (fun W h => h.phi (fun W hφ => hφ)) (fun ⟨n120, l101, i104, A102, c103⟩ u ⟨hlp, hc103⟩ => ?_)
  obtain ⟨o2, hm, hnx2⟩ := lp_step hlp
  clear hlp
  replace hm : m_ref03_row_s2 p0 l101 i104 = some o2 := hm
  unfold m_ref03_row_s2 at hm
  refine c_flat [(0, .string p0), (4, .slice A102 l101.length c103), (5, .int .i64 i104)] ⟨rfl, rfl, rfl, trivial⟩ (fun u => ?_)
  refine c_sta ⟨w0, M, H, (19, ⟨.slice A102 l101.length c103, 9, 1, l101.length, l101.flatMap (fun x : ByteArray => [Value.string x])⟩) :: R, φ⟩ (fun _ h => h) <| c_seq <| c_seq <| c_region <| g_v rfl r_move <| g_v rfl r_move <| g_v rfl (r_len Try.underlying9 rfl) <| g_v rfl (r_lss rfl rfl) <| g_v rfl r_move ?_
  refine g_if rfl rfl rfl rfl rfl (fun h121 => ?_) (fun h121 => ?_)
  ·
   replace hm := ite_t hm (of_decide_eq_true h121)
   refine g_v rfl r_move <| g_do rfl rfl rfl rfl rfl h121 <| g_v rfl r_move <| g_do rfl rfl rfl rfl rfl h121 ?_
   replace hm := bnd hm
   obtain ⟨b122, hb122, hm⟩ := hm
   refine g_v rfl (r_sat Try.underlying9 rfl rfl hb122) <| g_do rfl rfl rfl rfl rfl h121 <| g_v rfl (r_neq rfl rfl) <| g_v rfl (r_pick1 rfl h121) <| g_nil <| d_then ?_
   refine c_flat [(0, .string p0), (4, .slice A102 l101.length c103), (5, .int .i64 i104), (16, .bool (decide (b122 ≠ 0)))] ⟨rfl, rfl, rfl, rfl, trivial⟩ (fun u => ?_)
   refine c_cond rfl (fun h123 => ?_) (fun h123 => ?_)
   ·
    replace hm := ite_t hm (of_decide_eq_true h123)
    refine c_skip <| d_then <| c_block <| c_seq <| c_region <| g_v rfl r_move <| g_v rfl r_move ?_
    replace hm := bnd hm
    obtain ⟨b124, hb124, hm⟩ := hm
    refine g_v rfl (r_sat Try.underlying9 rfl rfl hb124) <| g_v rfl (r_conv Try.underlying5 Try.underlying3 rfl rfl) <| g_v rfl r_assign <| g_nil <| d_then <| c_seq <| c_seq <| c_region <| g_v rfl r_move <| g_v rfl (r_gtr rfl rfl) ?_
    refine g_v rfl r_move ?_
    refine g_if rfl rfl rfl rfl rfl (fun h125 => ?_) (fun h125 => ?_)
    ·
     replace hm := ite_f hm (of_decide_eq_false h125)
     refine g_v rfl r_move <| g_do rfl rfl rfl rfl rfl h125 <| g_v rfl (r_add rfl rfl rfl) <| g_do rfl rfl rfl rfl rfl h125 <| g_v rfl r_move <| g_do rfl rfl rfl rfl rfl h125 <| g_v rfl (r_add rfl rfl rfl) <| g_do rfl rfl rfl rfl rfl h125 <| g_v rfl r_move <| g_do rfl rfl rfl rfl rfl h125 ?_
     refine g_v rfl (r_len Try.underlying9 rfl) <| g_do rfl rfl rfl rfl rfl h125 <| g_v rfl (r_gtr rfl rfl) <| g_v rfl (r_pick0 rfl h125) <| g_nil <| d_then ?_
     refine c_flat [(0, .string p0), (4, .slice A102 l101.length c103), (5, .int .i64 i104), (6, .int .i64 (w64 b124)), (31, .bool (decide ((p0.size : Int) < w64 ((w64 (i104 + 1)) + (w64 b124)))))] ⟨rfl, rfl, rfl, rfl, rfl, trivial⟩ (fun u => ?_)
     refine c_cond rfl (fun h126 => ?_) (fun h126 => ?_)
     ·
      replace hm := ite_t hm (of_decide_eq_true h126)
      refine c_seq <| c_region <| g_v rfl r_assign <| g_v rfl r_assign <| g_nil <| d_then <| c_ret <| d_ret_then <| d_ret_block <| d_ret_then ?_
      refine d_ret_block <| d_ret_then <| d_ret_then ?_
      replace hm := nx_out (C := (fun e => Sum.elim (fun e => m_ref03_row_j1 p0 e.1 e.2) (fun x => some x) e = some r)) hm hnx2 hr2
      replace hm : some (([] : List ByteArray), false) = some r := hm
      replace hm := Option.some.inj hm
      subst hm
      refine d_sta _ (fun W h => nilR h 28 9 1) <| d_sta _ (fun W h => ok_frontR (t := 28) (t' := 2000) h rfl) ?_
      refine d_retC (none, 0) Try.results106 ?_ (Nat.le_refl 0) (fun W h => (h.dropR (t := 19) rfl).phi (fun W hφ => hφ)) (.inr rfl)
      refine res_tmp <| res_tmp <| res_nil ?_
      exact rfl
     ·
      replace hm := ite_f hm (of_decide_eq_false h126)
      refine c_skip <| d_then <| c_seq <| c_region <| g_v rfl r_move <| g_v rfl r_move <| g_v rfl r_move <| g_v rfl (r_add rfl rfl rfl) <| g_v rfl r_move <| g_v rfl (r_add rfl rfl rfl) ?_
      refine g_v rfl r_move <| g_v rfl (r_add rfl rfl rfl) ?_
      replace hm := bnd hm
      obtain ⟨s127, hs127, hm⟩ := hm
      refine g_v rfl (r_scutMid Try.underlying9 rfl rfl rfl hs127) ?_
      refine g_e rfl (e_lit (tag := 100410) (l := [s127]) (enc := (fun x : ByteArray => [Value.string x])) (sz := 1) rfl Try.underlying105 (lit9_7 _) rfl rfl (fun _ => rfl)) (fun g128 _ => ?_)
      replace hm := bnd hm
      obtain ⟨l129, hl129, hm⟩ := hm
      refine g_e rfl (e_appR (enc := (fun x : ByteArray => [Value.string x])) (l := l101) (l1 := [s127]) (l2 := l129) (tag := 19) Try.underlying105 inf9_8 rfl (by decide) (by decide) (fun _ => rfl) (fun _ => rfl) rfl hc103 rfl rfl (fun W hS => rowCl (tag := 100410) rfl W hS) hl129) (fun ⟨A130, c131⟩ hc131 => ?_)
      refine g_v rfl r_assign <| g_nil <| d_then ?_
      refine c_flat [(0, .string p0), (4, .slice A130 l129.length c131), (5, .int .i64 i104), (6, .int .i64 (w64 b124))] ⟨rfl, rfl, rfl, rfl, trivial⟩ (fun u => ?_)
      refine c_sta ⟨w0, M, H, (100410, ⟨.slice (some ⟨g128, 0, none⟩) [s127].length 1, 9, 1, [s127].length, [s127].flatMap (fun x : ByteArray => [Value.string x])⟩) :: (19, ⟨.slice A130 l129.length c131, 9, 1, l129.length, l129.flatMap (fun x : ByteArray => [Value.string x])⟩) :: R, φ⟩ (fun _ h => h) <| c_region <| g_v rfl r_move <| g_v rfl (r_add rfl rfl rfl) <| g_v rfl r_move <| g_v rfl (r_add rfl rfl rfl) <| g_v rfl r_assign <| g_nil <| d_normal_block ?_
      obtain ⟨n132, hn132, hlp⟩ := nx_inl hm hnx2
      exact d_round (n132, l129, w64 ((w64 (i104 + 1)) + (w64 b124)), A130, c131) ⟨hlp, hc131⟩ hn132 ⟨rfl, rfl, rfl, trivial⟩ (fun W h => (h.dropR (t := 100410) rfl).phi (fun W hφ => hφ))
    ·
     replace hm := ite_t hm (of_decide_eq_true h125)
     refine g_no rfl rfl rfl rfl rfl h125 <| g_no rfl rfl rfl rfl rfl h125 <| g_no rfl rfl rfl rfl rfl h125 <| g_no rfl rfl rfl rfl rfl h125 <| g_no rfl rfl rfl rfl rfl h125 <| g_no rfl rfl rfl rfl rfl h125 <| g_v rfl (r_pick1 rfl h125) <| g_nil <| d_then ?_
     refine c_flat [(0, .string p0), (4, .slice A102 l101.length c103), (5, .int .i64 i104), (6, .int .i64 (w64 b124)), (31, .bool true)] ⟨rfl, rfl, rfl, rfl, rfl, trivial⟩ (fun u => ?_)
     refine c_cond1 rfl rfl <| c_seq <| c_region <| g_v rfl r_assign <| g_v rfl r_assign <| g_nil <| d_then <| c_ret <| d_ret_then <| d_ret_block ?_
     refine d_ret_then <| d_ret_block <| d_ret_then <| d_ret_then ?_
     replace hm := nx_out (C := (fun e => Sum.elim (fun e => m_ref03_row_j1 p0 e.1 e.2) (fun x => some x) e = some r)) hm hnx2 hr2
     replace hm : some (([] : List ByteArray), false) = some r := hm
     replace hm := Option.some.inj hm
     subst hm
     refine d_sta _ (fun W h => nilR h 29 9 1) <| d_sta _ (fun W h => ok_frontR (t := 29) (t' := 2000) h rfl) ?_
     refine d_retC (none, 0) Try.results106 ?_ (Nat.le_refl 0) (fun W h => (h.dropR (t := 19) rfl).phi (fun W hφ => hφ)) (.inr rfl)
     refine res_tmp <| res_tmp <| res_nil ?_
     exact rfl
   ·
    replace hm := ite_f hm (of_decide_eq_false h123)
    refine c_exit <| d_exit_then <| d_exit_then <| d_exit_block ?_
    replace hm := nx_out (C := (fun e => Sum.elim (fun e => m_ref03_row_j1 p0 e.1 e.2) (fun x => some x) e = some r)) hm hnx2 hr2
    exact d_round (l101, i104, A102, c103) ⟨hm, hc103⟩ Nat.zero_lt_one ⟨rfl, rfl, rfl, trivial⟩ (fun W h => h.phi (fun W hφ => hφ))
  ·
   replace hm := ite_f hm (of_decide_eq_false h121)
   refine g_no rfl rfl rfl rfl rfl h121 <| g_no rfl rfl rfl rfl rfl h121 <| g_no rfl rfl rfl rfl rfl h121 <| g_v rfl (r_pick0 rfl h121) <| g_nil <| d_then <| c_cond0 rfl rfl <| c_exit <| d_exit_then <| d_exit_then ?_
   refine d_exit_block ?_
   replace hm := nx_out (C := (fun e => Sum.elim (fun e => m_ref03_row_j1 p0 e.1 e.2) (fun x => some x) e = some r)) hm hnx2 hr2
   exact d_round (l101, i104, A102, c103) ⟨hm, hc103⟩ Nat.zero_lt_one ⟨rfl, rfl, rfl, trivial⟩ (fun W h => h.phi (fun W hφ => hφ))
 ·
  unfold m_ref03_row_j1 at hm
  refine d_flat [(0, .string p0), (4, .slice A83 l82.length c84), (5, .int .i64 i85)] ⟨rfl, rfl, rfl, trivial⟩ (fun u => ?_)
  refine d_sta ⟨w0, M, H, (19, ⟨.slice A83 l82.length c84, 9, 1, l82.length, l82.flatMap (fun x : ByteArray => [Value.string x])⟩) :: R, φ⟩ (fun _ h => h) <| d_then <| c_seq <| c_region <| g_v rfl r_move <| g_v rfl r_move <| g_v rfl r_move <| g_v rfl (r_len Try.underlying9 rfl) <| g_v rfl (r_sub rfl rfl rfl) <| g_v rfl (r_eql rfl rfl) ?_
  refine g_v rfl r_assign <| g_v rfl r_assign <| g_nil <| d_then <| c_ret ?_
  replace hm := Option.some.inj hm
  subst hm
  refine d_sta _ (fun W h => ok_frontR (t := 19) (t' := 2000) h rfl) ?_
  refine d_retC (A83, c84) Try.results106 ?_ hc84 (fun W h => h.phi (fun W hφ => hφ)) (.inr rfl)
  refine res_tmp <| res_tmp <| res_nil ?_
  exact rfl
noncomputable def m_ref03_Check (p0 : ByteArray) : Option Int :=
  (m_ref03_row p0).bind fun (z7 : (List ByteArray) × Bool) =>
  if z7.2 = true then
    if 255 < (p0.size : Int) then
      some 11
    else
      some 0
  else
    some 10
theorem c_ref03_Check {w0 : World} {M : Nat → Prop} {H : List (Nat × Nat × Obj)} {R : List (Nat × Row)} {φ : World → Prop} (p0 : ByteArray) (r : Int) (hm : m_ref03_Check p0 = some r) :
    Cn Try.prog 81 #[.string p0] ⟨w0, M, H, R, φ⟩ (fun x : Unit => .int .i64 r) (fun x => True) (fun x => ⟨w0, M, H, R, φ⟩) := by
 unfold m_ref03_Check at hm
 refine cn_intro (fn := Try.f81) (N := 15) Try.func81 rfl Try.ntmps81 rfl <| c_seq <| c_region <| g_v rfl r_assign <| g_nil <| d_then <| c_seq <| c_region <| g_v rfl r_move ?_
 replace hm := bnd hm
 obtain ⟨⟨x1, x2⟩, hx3, hm⟩ := hm
 refine g_cn ⟨w0, M, _, _, φ⟩ (fun _ h => h) Try.call106 rfl rfl (c_ref03_row p0 _ hx3) (fun ⟨A4, c5⟩ hc5 => ?_)
 refine g_sta _ (fun W h => (ok_frontR (t := 2000) (t' := 100070) h rfl)) <| g_v rfl r_move <| g_v rfl (r_extract rfl rfl) <| g_v rfl (r_extract rfl rfl) <| g_v rfl r_assign <| g_v rfl r_assign <| g_nil <| d_then <| c_seq <| c_seq ?_
 refine c_region <| g_v rfl r_move <| g_v rfl (r_not rfl) <| g_nil <| d_then ?_
 refine c_flat [(0, .string p0), (11, .bool (!x2))] ⟨rfl, rfl, trivial⟩ (fun u => ?_)
 refine c_sta ⟨w0, M, H, (100070, ⟨.slice A4 x1.length c5, 9, 1, x1.length, x1.flatMap (fun x : ByteArray => [Value.string x])⟩) :: R, φ⟩ (fun _ h => h) ?_
 refine c_cond rfl (fun h8 => ?_) (fun h8 => ?_)
 ·
  have h8' : x2 = false := by revert h8; cases x2 <;> simp
  replace hm := ite_f hm (bool_nt h8')
  refine c_seq <| c_region <| g_v rfl r_assign <| g_nil <| d_then <| c_ret <| d_ret_then ?_
  replace hm := Option.some.inj hm
  subst hm
  refine d_retC () Try.results81 ?_ trivial (fun W h => ok_pre (H1 := []) (R1 := [_]) h (fun W hφ => hφ)) (.inr rfl)
  refine res_tmp <| res_nil ?_
  exact rfl
 ·
  have h8' : x2 = true := by revert h8; cases x2 <;> simp
  replace hm := ite_t hm h8'
  refine c_skip <| d_then <| c_seq <| c_seq <| c_region <| g_v rfl r_move <| g_v rfl (r_len Try.underlying9 rfl) <| g_v rfl (r_gtr rfl rfl) <| g_nil <| d_then ?_
  refine c_cond rfl (fun h9 => ?_) (fun h9 => ?_)
  ·
   replace hm := ite_t hm (of_decide_eq_true h9)
   refine c_seq <| c_region <| g_v rfl r_assign <| g_nil <| d_then <| c_ret <| d_ret_then ?_
   replace hm := Option.some.inj hm
   subst hm
   refine d_retC () Try.results81 ?_ trivial (fun W h => ok_pre (H1 := []) (R1 := [_]) h (fun W hφ => hφ)) (.inr rfl)
   refine res_tmp <| res_nil ?_
   exact rfl
  ·
   replace hm := ite_f hm (of_decide_eq_false h9)
   refine c_skip <| d_then <| c_seq <| c_region <| g_v rfl r_assign <| g_nil <| d_then <| c_ret ?_
   replace hm := Option.some.inj hm
   subst hm
   refine d_retC () Try.results81 ?_ trivial (fun W h => ok_pre (H1 := []) (R1 := [_]) h (fun W hφ => hφ)) (.inr rfl)
   refine res_tmp <| res_nil ?_
   exact rfl
noncomputable def m_ref05_first_j1 (p0 : ByteArray) (i13 : Int) : Option (ByteArray × ByteArray × Bool) :=
  if (p0.size : Int) ≤ i13 then
    some ((⟨#[]⟩ : ByteArray), (⟨#[]⟩ : ByteArray), false)
  else
    (scutHi p0 (w64 (i13 + 1))).bind fun s15 =>
    (m_ref03_Check s15).bind fun x16 =>
    if x16 ≠ 0 then
      some ((⟨#[]⟩ : ByteArray), (⟨#[]⟩ : ByteArray), false)
    else
      (scutHi p0 (w64 (i13 + 1))).bind fun s23 =>
      (scutLo p0 (w64 (i13 + 1))).bind fun s24 =>
      some (s23, s24, true)
noncomputable def m_ref05_first_s2 (p0 : ByteArray) (i30 : Int) : Option (Int ⊕ Int) :=
  if i30 < (p0.size : Int) then
    (sat_ p0 i30).bind fun b38 =>
    if b38 ≠ 0 then
      (sat_ p0 i30).bind fun b40 =>
      some (.inl (w64 ((w64 (i30 + 1)) + (w64 b40))))
    else
      some (.inr i30)
  else
    some (.inr i30)
noncomputable def m_ref05_first (p0 : ByteArray) : Option (ByteArray × ByteArray × Bool) :=
  (loop (fun s => m_ref05_first_s2 p0 s) 0).bind fun e => m_ref05_first_j1 p0 e
theorem c_ref05_first {w0 : World} {M : Nat → Prop} {H : List (Nat × Nat × Obj)} {R : List (Nat × Row)} {φ : World → Prop} (p0 : ByteArray) (r : ByteArray × ByteArray × Bool) (hm : m_ref05_first p0 = some r) :
    Cn Try.prog 104 #[.string p0] ⟨w0, M, H, R, φ⟩ (fun x : Unit => .tuple #[.string r.1, .string r.2.1, .bool r.2.2]) (fun x => True) (fun x => ⟨w0, M, H, R, φ⟩) := by
 unfold m_ref05_first at hm
 refine cn_intro (fn := Try.f104) (N := 43) Try.func104 rfl Try.ntmps104 rfl <| c_seq <| c_region <| g_v rfl r_assign <| g_v rfl r_assign <| g_v rfl r_assign <| g_nil <| d_then <| c_seq <| c_region ?_
 refine g_v rfl r_assign <| g_nil <| d_then <| c_seq ?_
 refine c_cut (ι := Int) [0, 5] (fun i13 => [(5, .int .i64 i13)]) (fun i13 => ⟨w0, M, H, R, φ⟩) (fun i13 => m_ref05_first_j1 p0 i13 = some r) ?_ (fun i13 u hm => ?_)
 ·
  refine c_block ?_
  replace hm := bnd hm
  obtain ⟨out2, hl2, hr2⟩ := hm
  obtain ⟨n36', hl2⟩ := loop_lp hl2
  refine c_loopU (ι := Nat × Int) [0, 5] (fun ⟨n36, i30⟩ => [(5, .int .i64 i30)]) (fun ⟨n36, i30⟩ => ⟨w0, M, H, R, φ⟩) (fun ⟨n36, i30⟩ => Lp (fun s => m_ref05_first_s2 p0 s) n36 i30 out2) (fun ⟨n36, i30⟩ => n36) (n36', 0) hl2 ⟨rfl, rfl, trivial⟩ (fun W h => h.phi (fun W hφ => hφ)) (fun ⟨n36, i30⟩ u hlp => ?_)
  obtain ⟨o2, hm, hnx2⟩ := lp_step hlp
  clear hlp
  replace hm : m_ref05_first_s2 p0 i30 = some o2 := hm
  unfold m_ref05_first_s2 at hm
  refine c_flat [(0, .string p0), (5, .int .i64 i30)] ⟨rfl, rfl, trivial⟩ (fun u => ?_)
  refine c_sta ⟨w0, M, H, R, φ⟩ (fun _ h => h) <| c_seq <| c_seq <| c_region <| g_v rfl r_move <| g_v rfl r_move <| g_v rfl (r_len Try.underlying9 rfl) <| g_v rfl (r_lss rfl rfl) <| g_v rfl r_move ?_
  refine g_if rfl rfl rfl rfl rfl (fun h37 => ?_) (fun h37 => ?_)
  ·
   replace hm := ite_t hm (of_decide_eq_true h37)
   refine g_v rfl r_move <| g_do rfl rfl rfl rfl rfl h37 <| g_v rfl r_move <| g_do rfl rfl rfl rfl rfl h37 ?_
   replace hm := bnd hm
   obtain ⟨b38, hb38, hm⟩ := hm
   refine g_v rfl (r_sat Try.underlying9 rfl rfl hb38) <| g_do rfl rfl rfl rfl rfl h37 <| g_v rfl (r_neq rfl rfl) <| g_v rfl (r_pick1 rfl h37) <| g_nil <| d_then ?_
   refine c_flat [(0, .string p0), (5, .int .i64 i30), (15, .bool (decide (b38 ≠ 0)))] ⟨rfl, rfl, rfl, trivial⟩ (fun u => ?_)
   refine c_cond rfl (fun h39 => ?_) (fun h39 => ?_)
   ·
    replace hm := ite_t hm (of_decide_eq_true h39)
    refine c_skip <| d_then <| c_block <| c_region <| g_v rfl r_move <| g_v rfl (r_add rfl rfl rfl) <| g_v rfl r_move <| g_v rfl r_move ?_
    replace hm := bnd hm
    obtain ⟨b40, hb40, hm⟩ := hm
    refine g_v rfl (r_sat Try.underlying9 rfl rfl hb40) <| g_v rfl (r_conv Try.underlying5 Try.underlying3 rfl rfl) <| g_v rfl (r_add rfl rfl rfl) <| g_v rfl r_assign <| g_nil <| d_normal_block ?_
    obtain ⟨n41, hn41, hlp⟩ := nx_inl hm hnx2
    exact d_round (n41, w64 ((w64 (i30 + 1)) + (w64 b40))) hlp hn41 ⟨rfl, rfl, trivial⟩ (fun W h => h.phi (fun W hφ => hφ))
   ·
    replace hm := ite_f hm (of_decide_eq_false h39)
    refine c_exit <| d_exit_then <| d_exit_then <| d_exit_block ?_
    replace hm := nx_out (C := (fun e => m_ref05_first_j1 p0 e = some r)) hm hnx2 hr2
    exact d_round i30 hm Nat.zero_lt_one ⟨rfl, rfl, trivial⟩ (fun W h => h.phi (fun W hφ => hφ))
  ·
   replace hm := ite_f hm (of_decide_eq_false h37)
   refine g_no rfl rfl rfl rfl rfl h37 <| g_no rfl rfl rfl rfl rfl h37 <| g_no rfl rfl rfl rfl rfl h37 <| g_v rfl (r_pick0 rfl h37) <| g_nil <| d_then <| c_cond0 rfl rfl <| c_exit <| d_exit_then <| d_exit_then ?_
   refine d_exit_block ?_
   replace hm := nx_out (C := (fun e => m_ref05_first_j1 p0 e = some r)) hm hnx2 hr2
   exact d_round i30 hm Nat.zero_lt_one ⟨rfl, rfl, trivial⟩ (fun W h => h.phi (fun W hφ => hφ))
 ·
  unfold m_ref05_first_j1 at hm
  refine d_flat [(0, .string p0), (5, .int .i64 i13)] ⟨rfl, rfl, trivial⟩ (fun u => ?_)
  refine d_sta ⟨w0, M, H, R, φ⟩ (fun _ h => h) <| d_then <| c_seq <| c_seq <| c_region <| g_v rfl r_move <| g_v rfl r_move <| g_v rfl (r_len Try.underlying9 rfl) <| g_v rfl (r_geq rfl rfl) <| g_v rfl r_move ?_
  refine g_if rfl rfl rfl rfl rfl (fun h14 => ?_) (fun h14 => ?_)
  ·
   replace hm := ite_f hm (of_decide_eq_false h14)
   refine g_v rfl r_move <| g_do rfl rfl rfl rfl rfl h14 <| g_v rfl r_move <| g_do rfl rfl rfl rfl rfl h14 <| g_v rfl (r_add rfl rfl rfl) <| g_do rfl rfl rfl rfl rfl h14 ?_
   replace hm := bnd hm
   obtain ⟨s15, hs15, hm⟩ := hm
   refine g_v rfl (r_scutHi Try.underlying9 rfl rfl hs15) <| g_do rfl rfl rfl rfl rfl h14 ?_
   replace hm := bnd hm
   obtain ⟨x16, hx17, hm⟩ := hm
   refine g_cn ⟨w0, M, _, _, φ⟩ (fun _ h => h) Try.call81 rfl rfl (c_ref03_Check s15 _ hx17) (fun _ _ => ?_)
   refine g_do rfl rfl rfl rfl rfl h14 <| g_v rfl (r_neq rfl rfl) <| g_v rfl (r_pick0 rfl h14) <| g_nil <| d_then ?_
   refine c_flat [(0, .string p0), (5, .int .i64 i13), (34, .bool (decide (x16 ≠ 0)))] ⟨rfl, rfl, rfl, trivial⟩ (fun u => ?_)
   refine c_cond rfl (fun h18 => ?_) (fun h18 => ?_)
   ·
    replace hm := ite_t hm (of_decide_eq_true h18)
    refine c_seq <| c_region <| g_v rfl r_assign <| g_v rfl r_assign <| g_v rfl r_assign <| g_nil <| d_then <| c_ret <| d_ret_then ?_
    replace hm := Option.some.inj hm
    subst hm
    refine d_retC () Try.results104 ?_ trivial (fun W h => ok_pre (H1 := []) (R1 := []) h (fun W hφ => hφ)) (.inr rfl)
    refine res_tmp <| res_tmp <| res_tmp <| res_nil ?_
    exact rfl
   ·
    replace hm := ite_f hm (of_decide_eq_false h18)
    refine c_skip <| d_then <| c_seq <| ga_start (n := 11) ⟨w0, M, H, R, φ⟩ [] #[false, false, false, false, false, false, false, false, false, false, false] (fun W h => h.phi (fun W hφ => hφ)) mixed rfl rfl <| ga_v (i := 0) (bz 11 1) rfl (by kernel_rfl) (fun _ _ _ _ h => h) rfl (r_move) <| ga_v (i := 1) (bz 11 3) rfl (by kernel_rfl) (fun _ _ _ _ h => h) rfl (r_move) <| ga_v (i := 2) (bz 11 7) rfl (by kernel_rfl) (fun _ _ _ _ h => h) rfl (r_add rfl rfl rfl) ?_
    replace hm := bnd hm
    obtain ⟨s23, hs23, hm⟩ := hm
    refine ga_v (i := 3) (bz 11 15) rfl (by kernel_rfl) (fun _ _ _ _ h => h) rfl (r_scutHi Try.underlying9 rfl rfl hs23) <| ga_v (i := 4) (bz 11 31) rfl (by kernel_rfl) (fun _ _ _ _ h => h) rfl (r_move) <| ga_v (i := 5) (bz 11 63) rfl (by kernel_rfl) (fun _ _ _ _ h => h) rfl (r_move) <| ga_v (i := 6) (bz 11 127) rfl (by kernel_rfl) (fun _ _ _ _ h => h) rfl (r_add rfl rfl rfl) ?_
    replace hm := bnd hm
    obtain ⟨s24, hs24, hm⟩ := hm
    refine ga_v (i := 7) (bz 11 255) rfl (by kernel_rfl) (fun _ _ _ _ h => h) rfl (r_scutLo Try.underlying9 rfl rfl hs24) <| ga_r (i := 8) (bz 11 511) rfl (by kernel_rfl) (by decide) rfl (r_assign) <| ga_r (i := 9) (bz 11 1023) rfl (by kernel_rfl) (by decide) rfl (r_assign) <| ga_r (i := 10) (bz 11 2047) rfl (by kernel_rfl) (by decide) rfl (r_assign) <| ga_done (by kernel_rfl) <| d_then ?_
    refine c_flat [(2, .string s23), (3, .string s24), (4, .bool true)] ⟨rfl, rfl, rfl, trivial⟩ (fun u => ?_)
    refine c_ret ?_
    replace hm := Option.some.inj hm
    subst hm
    refine d_retC () Try.results104 ?_ trivial (fun W h => ok_pre (H1 := []) (R1 := []) h (fun W hφ => hφ)) (.inr rfl)
    refine res_tmp <| res_tmp <| res_tmp <| res_nil ?_
    exact rfl
  ·
   replace hm := ite_t hm (of_decide_eq_true h14)
   refine g_no rfl rfl rfl rfl rfl h14 <| g_no rfl rfl rfl rfl rfl h14 <| g_no rfl rfl rfl rfl rfl h14 <| g_no rfl rfl rfl rfl rfl h14 <| g_no rfl rfl rfl rfl rfl h14 <| g_v rfl (r_pick1 rfl h14) <| g_nil <| d_then <| c_cond1 rfl rfl <| c_seq ?_
   refine c_region <| g_v rfl r_assign <| g_v rfl r_assign <| g_v rfl r_assign <| g_nil <| d_then ?_
   refine c_flat [(2, .string (⟨#[]⟩ : ByteArray)), (3, .string (⟨#[]⟩ : ByteArray)), (4, .bool false)] ⟨rfl, rfl, rfl, trivial⟩ (fun u => ?_)
   refine c_ret <| d_ret_then ?_
   replace hm := Option.some.inj hm
   subst hm
   refine d_retC () Try.results104 ?_ trivial (fun W h => ok_pre (H1 := []) (R1 := []) h (fun W hφ => hφ)) (.inr rfl)
   refine res_tmp <| res_tmp <| res_tmp <| res_nil ?_
   exact rfl
noncomputable def m_ref05_Names_j1 (p1 : ByteArray) (x1 : Int) (x3 : Int) (l99 : List ByteArray) (s102 : ByteArray) : Option (ByteArray × (List ByteArray) × ByteArray × Bool) :=
  (scutHi p1 x1).bind fun s103 =>
  some (s103, l99, s102, decide ((s102.size : Int) = x3))
noncomputable def m_ref05_Names_s2 (x2 : Int) (l120 : List ByteArray) (s123 : ByteArray) (i124 : Int) : Option (((List ByteArray) × ByteArray × Int) ⊕ (((List ByteArray) × ByteArray) ⊕ (ByteArray × (List ByteArray) × ByteArray × Bool))) :=
  if i124 < x2 then
    (m_ref05_first s123).bind fun (z147 : ByteArray × ByteArray × Bool) =>
    if z147.2.2 = true then
      (app 16 l120 [z147.1]).bind fun l150 =>
      some (.inl (l150, z147.2.1, w64 (i124 + 1)))
    else
      some (.inr (.inr ((⟨#[]⟩ : ByteArray), ([] : List ByteArray), (⟨#[]⟩ : ByteArray), false)))
  else
    some (.inr (.inl (l120, s123)))
noncomputable def m_ref05_Names (p0 : Int) (p1 : ByteArray) : Option (ByteArray × (List ByteArray) × ByteArray × Bool) :=
  (m_ref05_head p0).bind fun (z6 : Int × Int × Int × Bool) =>
  if z6.2.2.2 = true then
    if (p1.size : Int) < z6.1 then
      some ((⟨#[]⟩ : ByteArray), ([] : List ByteArray), (⟨#[]⟩ : ByteArray), false)
    else
      (scutLo p1 z6.1).bind fun s9 =>
      (loop (fun s => m_ref05_Names_s2 z6.2.1 s.1 s.2.1 s.2.2) (([] : List ByteArray), s9, 0)).bind fun e => Sum.elim (fun e => m_ref05_Names_j1 p1 z6.1 z6.2.2.1 e.1 e.2) (fun x => some x) e
  else
    some ((⟨#[]⟩ : ByteArray), ([] : List ByteArray), (⟨#[]⟩ : ByteArray), false)
theorem c_ref05_Names {w0 : World} {M : Nat → Prop} {H : List (Nat × Nat × Obj)} {R : List (Nat × Row)} {φ : World → Prop} (p0 : Int) (p1 : ByteArray) (r : ByteArray × (List ByteArray) × ByteArray × Bool) (hm : m_ref05_Names p0 p1 = some r) :
    Cn Try.prog 75 #[.int .u16 p0, .string p1] ⟨w0, M, H, R, φ⟩ (fun x : Option Addr × Nat => .tuple #[.string r.1, .slice x.1 r.2.1.length x.2, .string r.2.2.1, .bool r.2.2.2]) (fun x => r.2.1.length ≤ x.2) (fun x => ⟨w0, M, H, (2000, ⟨.slice x.1 r.2.1.length x.2, 9, 1, r.2.1.length, r.2.1.flatMap (fun x : ByteArray => [Value.string x])⟩) :: R, φ⟩) := by
 unfold m_ref05_Names at hm
 refine cn_intro (fn := Try.f75) (N := 63) Try.func75 rfl Try.ntmps75 rfl <| c_seq <| c_region <| g_v rfl r_assign <| g_v rfl r_assign <| g_v rfl r_assign <| g_v rfl r_assign <| g_nil <| d_then <| c_seq ?_
 refine c_region <| g_v rfl r_move ?_
 replace hm := bnd hm
 obtain ⟨⟨x1, x2, x3, x4⟩, hx5, hm⟩ := hm
 refine g_cn ⟨w0, M, _, _, φ⟩ (fun _ h => h) Try.call66 rfl rfl (c_ref05_head p0 _ hx5) (fun _ _ => ?_)
 refine g_v rfl r_move <| g_v rfl (r_extract rfl rfl) <| g_v rfl (r_extract rfl rfl) <| g_v rfl (r_extract rfl rfl) <| g_v rfl (r_extract rfl rfl) <| g_v rfl r_assign <| g_v rfl r_assign <| g_v rfl r_assign <| g_v rfl r_assign <| g_nil ?_
 refine d_then ?_
 refine c_flat [(1, .string p1), (8, .int .i64 x1), (9, .int .i64 x2), (10, .int .i64 x3), (11, .bool x4)] ⟨rfl, rfl, rfl, rfl, rfl, trivial⟩ (fun u => ?_)
 refine c_sta ⟨w0, M, H, R, φ⟩ (fun _ h => h) <| c_seq <| c_seq <| c_region <| g_v rfl r_move <| g_v rfl (r_not rfl) <| g_v rfl r_move ?_
 refine g_if rfl rfl rfl rfl rfl (fun h7 => ?_) (fun h7 => ?_)
 ·
  have h7' : x4 = true := by revert h7; cases x4 <;> simp
  replace hm := ite_t hm h7'
  refine g_v rfl r_move <| g_do rfl rfl rfl rfl rfl h7 <| g_v rfl (r_len Try.underlying9 rfl) <| g_do rfl rfl rfl rfl rfl h7 <| g_v rfl r_move <| g_do rfl rfl rfl rfl rfl h7 <| g_v rfl (r_lss rfl rfl) <| g_v rfl (r_pick0 rfl h7) <| g_nil <| d_then ?_
  refine c_cond rfl (fun h8 => ?_) (fun h8 => ?_)
  ·
   replace hm := ite_t hm (of_decide_eq_true h8)
   refine c_seq <| c_region <| g_v rfl r_assign <| g_v rfl r_assign <| g_v rfl r_assign <| g_v rfl r_assign <| g_nil <| d_then ?_
   refine c_flat [(4, .string (⟨#[]⟩ : ByteArray)), (5, .slice none 0 0), (6, .string (⟨#[]⟩ : ByteArray)), (7, .bool false)] ⟨rfl, rfl, rfl, rfl, trivial⟩ (fun u => ?_)
   refine c_ret <| d_ret_then ?_
   replace hm := Option.some.inj hm
   subst hm
   refine d_sta _ (fun W h => nilR h 11 9 1) <| d_sta _ (fun W h => ok_frontR (t := 11) (t' := 2000) h rfl) ?_
   refine d_retC (none, 0) Try.results75 ?_ (Nat.le_refl 0) (fun W h => h.phi (fun W hφ => hφ)) (.inr rfl)
   refine res_tmp <| res_tmp <| res_tmp <| res_tmp <| res_nil ?_
   exact rfl
  ·
   replace hm := ite_f hm (of_decide_eq_false h8)
   refine c_skip <| d_then <| c_seq <| c_region <| g_v rfl r_move <| g_v rfl r_move ?_
   replace hm := bnd hm
   obtain ⟨s9, hs9, hm⟩ := hm
   refine g_v rfl (r_scutLo Try.underlying9 rfl rfl hs9) <| g_v rfl r_assign <| g_nil <| d_then ?_
   refine c_flat [(1, .string p1), (8, .int .i64 x1), (9, .int .i64 x2), (10, .int .i64 x3), (12, .string s9)] ⟨rfl, rfl, rfl, rfl, rfl, trivial⟩ (fun u => ?_)
   refine c_seq <| c_region <| g_v rfl r_assign <| g_nil <| d_then <| c_seq <| c_seq <| c_region <| g_v rfl r_assign <| g_nil ?_
   refine d_then <| c_sta _ (fun W h => nilR h 17 9 1) ?_
   refine c_cut (ι := (List ByteArray) × ByteArray × Option Addr × Nat) [1, 8, 10, 12, 13] (fun ⟨l99, s102, A100, c101⟩ => [(12, .string s102), (13, .slice A100 l99.length c101)]) (fun ⟨l99, s102, A100, c101⟩ => ⟨w0, M, H, (17, ⟨.slice A100 l99.length c101, 9, 1, l99.length, l99.flatMap (fun x : ByteArray => [Value.string x])⟩) :: R, φ⟩) (fun ⟨l99, s102, A100, c101⟩ => m_ref05_Names_j1 p1 x1 x3 l99 s102 = some r ∧ l99.length ≤ c101) ?_ (fun ⟨l99, s102, A100, c101⟩ u ⟨hm, hc101⟩ => ?_)
   ·
    refine c_block ?_
    replace hm := bnd hm
    obtain ⟨out2, hl2, hr2⟩ := hm
    obtain ⟨n141', hl2⟩ := loop_lp hl2
    refine c_loopU (ι := Nat × (List ByteArray) × ByteArray × Int × Option Addr × Nat) [1, 8, 9, 10, 12, 13, 14] (fun ⟨n141, l120, s123, i124, A121, c122⟩ => [(12, .string s123), (13, .slice A121 l120.length c122), (14, .int .i64 i124)]) (fun ⟨n141, l120, s123, i124, A121, c122⟩ => ⟨w0, M, H, (17, ⟨.slice A121 l120.length c122, 9, 1, l120.length, l120.flatMap (fun x : ByteArray => [Value.string x])⟩) :: R, φ⟩) (fun ⟨n141, l120, s123, i124, A121, c122⟩ => Lp (fun s => m_ref05_Names_s2 x2 s.1 s.2.1 s.2.2) n141 (l120, s123, i124) out2 ∧ l120.length ≤ c122) (fun ⟨n141, l120, s123, i124, A121, c122⟩ => n141) (n141', ([] : List ByteArray), s9, 0, none, 0) ⟨hl2, (Nat.le_refl 0)⟩ ⟨rfl, rfl, rfl, rfl, rfl, rfl, rfl, trivial⟩ (fun W h => h.phi (fun W hφ => hφ)) (fun ⟨n141, l120, s123, i124, A121, c122⟩ u ⟨hlp, hc122⟩ => ?_)
    obtain ⟨o2, hm, hnx2⟩ := lp_step hlp
    clear hlp
    replace hm : m_ref05_Names_s2 x2 l120 s123 i124 = some o2 := hm
    unfold m_ref05_Names_s2 at hm
    refine c_flat [(1, .string p1), (8, .int .i64 x1), (9, .int .i64 x2), (10, .int .i64 x3), (12, .string s123), (13, .slice A121 l120.length c122), (14, .int .i64 i124)] ⟨rfl, rfl, rfl, rfl, rfl, rfl, rfl, trivial⟩ (fun u => ?_)
    refine c_sta ⟨w0, M, H, (17, ⟨.slice A121 l120.length c122, 9, 1, l120.length, l120.flatMap (fun x : ByteArray => [Value.string x])⟩) :: R, φ⟩ (fun _ h => h) <| c_seq <| c_seq <| c_region <| g_v rfl r_move <| g_v rfl r_move <| g_v rfl (r_lss rfl rfl) <| g_nil <| d_then ?_
    refine c_cond rfl (fun h142 => ?_) (fun h142 => ?_)
    ·
     replace hm := ite_t hm (of_decide_eq_true h142)
     refine c_skip <| d_then <| c_seq <| c_block <| c_seq <| c_region <| g_v rfl r_move ?_
     replace hm := bnd hm
     obtain ⟨⟨x143, x144, x145⟩, hx146, hm⟩ := hm
     refine g_cn ⟨w0, M, _, _, φ⟩ (fun _ h => h) Try.call104 rfl rfl (c_ref05_first s123 _ hx146) (fun _ _ => ?_)
     refine g_v rfl r_move <| g_v rfl (r_extract rfl rfl) <| g_v rfl (r_extract rfl rfl) <| g_v rfl (r_extract rfl rfl) <| g_v rfl r_assign <| g_v rfl r_assign <| g_v rfl r_assign <| g_nil <| d_then ?_
     refine c_flat [(1, .string p1), (8, .int .i64 x1), (9, .int .i64 x2), (10, .int .i64 x3), (13, .slice A121 l120.length c122), (14, .int .i64 i124), (15, .string x143), (16, .string x144), (17, .bool x145)] ⟨rfl, rfl, rfl, rfl, rfl, rfl, rfl, rfl, rfl, trivial⟩ (fun u => ?_)
     refine c_seq <| c_seq <| c_region <| g_v rfl r_move <| g_v rfl (r_not rfl) <| g_nil <| d_then ?_
     refine c_cond rfl (fun h148 => ?_) (fun h148 => ?_)
     ·
      have h148' : x145 = false := by revert h148; cases x145 <;> simp
      replace hm := ite_f hm (bool_nt h148')
      refine c_seq <| c_region <| g_v rfl r_assign <| g_v rfl r_assign <| g_v rfl r_assign <| g_v rfl r_assign <| g_nil <| d_then <| c_ret <| d_ret_then ?_
      refine d_ret_block <| d_ret_then <| d_ret_then <| d_ret_block <| d_ret_then <| d_ret_then ?_
      replace hm := nx_out (C := (fun e => Sum.elim (fun e => m_ref05_Names_j1 p1 x1 x3 e.1 e.2) (fun x => some x) e = some r)) hm hnx2 hr2
      replace hm : some ((⟨#[]⟩ : ByteArray), ([] : List ByteArray), (⟨#[]⟩ : ByteArray), false) = some r := hm
      replace hm := Option.some.inj hm
      subst hm
      refine d_sta _ (fun W h => nilR h 22 9 1) <| d_sta _ (fun W h => ok_frontR (t := 22) (t' := 2000) h rfl) ?_
      refine d_retC (none, 0) Try.results75 ?_ (Nat.le_refl 0) (fun W h => (h.dropR (t := 17) rfl).phi (fun W hφ => hφ)) (.inr rfl)
      refine res_tmp <| res_tmp <| res_tmp <| res_tmp <| res_nil ?_
      exact rfl
     ·
      have h148' : x145 = true := by revert h148; cases x145 <;> simp
      replace hm := ite_t hm h148'
      refine c_skip <| d_then <| c_seq <| c_region <| g_v rfl r_move <| g_v rfl r_move ?_
      refine g_e rfl (e_lit (tag := 100510) (l := [x143]) (enc := (fun x : ByteArray => [Value.string x])) (sz := 1) rfl Try.underlying105 (lit9_7 _) rfl rfl (fun _ => rfl)) (fun g149 _ => ?_)
      replace hm := bnd hm
      obtain ⟨l150, hl150, hm⟩ := hm
      refine g_e rfl (e_appR (enc := (fun x : ByteArray => [Value.string x])) (l := l120) (l1 := [x143]) (l2 := l150) (tag := 17) Try.underlying105 inf9_8 rfl (by decide) (by decide) (fun _ => rfl) (fun _ => rfl) rfl hc122 rfl rfl (fun W hS => rowCl (tag := 100510) rfl W hS) hl150) (fun ⟨A151, c152⟩ hc152 => ?_)
      refine g_v rfl r_assign <| g_nil <| d_then <| c_region <| g_v rfl r_move <| g_v rfl r_assign <| g_nil <| d_normal_block <| d_then ?_
      refine c_flat [(1, .string p1), (8, .int .i64 x1), (9, .int .i64 x2), (10, .int .i64 x3), (12, .string x144), (13, .slice A151 l150.length c152), (14, .int .i64 i124)] ⟨rfl, rfl, rfl, rfl, rfl, rfl, rfl, trivial⟩ (fun u => ?_)
      refine c_sta ⟨w0, M, H, (100510, ⟨.slice (some ⟨g149, 0, none⟩) [x143].length 1, 9, 1, [x143].length, [x143].flatMap (fun x : ByteArray => [Value.string x])⟩) :: (17, ⟨.slice A151 l150.length c152, 9, 1, l150.length, l150.flatMap (fun x : ByteArray => [Value.string x])⟩) :: R, φ⟩ (fun _ h => h) <| c_region <| g_v rfl r_move <| g_v rfl (r_add rfl rfl rfl) <| g_v rfl r_assign <| g_nil ?_
      obtain ⟨n153, hn153, hlp⟩ := nx_inl hm hnx2
      exact d_round (n153, l150, x144, w64 (i124 + 1), A151, c152) ⟨hlp, hc152⟩ hn153 ⟨rfl, rfl, rfl, rfl, rfl, rfl, rfl, trivial⟩ (fun W h => (h.dropR (t := 100510) rfl).phi (fun W hφ => hφ))
    ·
     replace hm := ite_f hm (of_decide_eq_false h142)
     refine c_exit <| d_exit_then <| d_exit_then <| d_exit_block ?_
     replace hm := nx_out (C := (fun e => Sum.elim (fun e => m_ref05_Names_j1 p1 x1 x3 e.1 e.2) (fun x => some x) e = some r)) hm hnx2 hr2
     exact d_round (l120, s123, A121, c122) ⟨hm, hc122⟩ Nat.zero_lt_one ⟨rfl, rfl, rfl, rfl, rfl, trivial⟩ (fun W h => h.phi (fun W hφ => hφ))
   ·
    unfold m_ref05_Names_j1 at hm
    refine d_flat [(1, .string p1), (8, .int .i64 x1), (10, .int .i64 x3), (12, .string s102), (13, .slice A100 l99.length c101)] ⟨rfl, rfl, rfl, rfl, rfl, trivial⟩ (fun u => ?_)
    refine d_sta ⟨w0, M, H, (17, ⟨.slice A100 l99.length c101, 9, 1, l99.length, l99.flatMap (fun x : ByteArray => [Value.string x])⟩) :: R, φ⟩ (fun _ h => h) <| d_then <| c_seq <| c_region <| g_v rfl r_move <| g_v rfl r_move ?_
    replace hm := bnd hm
    obtain ⟨s103, hs103, hm⟩ := hm
    refine g_v rfl (r_scutHi Try.underlying9 rfl rfl hs103) <| g_v rfl r_move <| g_v rfl r_move <| g_v rfl r_move <| g_v rfl (r_len Try.underlying9 rfl) <| g_v rfl r_move <| g_v rfl (r_eql rfl rfl) <| g_v rfl r_assign <| g_v rfl r_assign <| g_v rfl r_assign ?_
    refine g_v rfl r_assign <| g_nil <| d_then ?_
    refine c_flat [(4, .string s103), (5, .slice A100 l99.length c101), (6, .string s102), (7, .bool (decide ((s102.size : Int) = x3)))] ⟨rfl, rfl, rfl, rfl, trivial⟩ (fun u => ?_)
    refine c_ret ?_
    replace hm := Option.some.inj hm
    subst hm
    refine d_sta _ (fun W h => ok_frontR (t := 17) (t' := 2000) h rfl) ?_
    refine d_retC (A100, c101) Try.results75 ?_ hc101 (fun W h => h.phi (fun W hφ => hφ)) (.inr rfl)
    refine res_tmp <| res_tmp <| res_tmp <| res_tmp <| res_nil ?_
    exact rfl
 ·
  have h7' : x4 = false := by revert h7; cases x4 <;> simp
  replace hm := ite_f hm (bool_nt h7')
  refine g_no rfl rfl rfl rfl rfl h7 <| g_no rfl rfl rfl rfl rfl h7 <| g_no rfl rfl rfl rfl rfl h7 <| g_v rfl (r_pick1 rfl h7) <| g_nil <| d_then <| c_cond1 rfl rfl <| c_seq <| c_region <| g_v rfl r_assign ?_
  refine g_v rfl r_assign <| g_v rfl r_assign <| g_v rfl r_assign <| g_nil <| d_then <| c_ret <| d_ret_then ?_
  replace hm := Option.some.inj hm
  subst hm
  refine d_sta _ (fun W h => nilR h 23 9 1) <| d_sta _ (fun W h => ok_frontR (t := 23) (t' := 2000) h rfl) ?_
  refine d_retC (none, 0) Try.results75 ?_ (Nat.le_refl 0) (fun W h => h.phi (fun W hφ => hφ)) (.inr rfl)
  refine res_tmp <| res_tmp <| res_tmp <| res_tmp <| res_nil ?_
  exact rfl
noncomputable def m_ref05_Right_j1 (p1 : ByteArray) (i28 : Int) : Option Bool :=
  if i28 = (p1.size : Int) then
    some (decide (0 < i28))
  else
    some false
noncomputable def m_ref05_Right_s2 (p1 : ByteArray) (i33 : Int) : Option (Int ⊕ Int) :=
  if i33 < (p1.size : Int) then
    (sat_ p1 i33).bind fun b39 =>
    some (.inl (w64 ((w64 (i33 + 1)) + (w64 b39))))
  else
    some (.inr i33)
noncomputable def m_ref05_Right (p0 : Int) (p1 : ByteArray) : Option Bool :=
  (m_ref05_head p0).bind fun (z6 : Int × Int × Int × Bool) =>
  if z6.2.2.2 = true then
    (m_ref05_Names p0 p1).bind fun (z16 : ByteArray × (List ByteArray) × ByteArray × Bool) =>
    some z16.2.2.2
  else
    if p0 = 1 then
      some (decide ((p1.size : Int) = 4))
    else
      if p0 = 28 then
        some (decide ((p1.size : Int) = 16))
      else
        if p0 = 16 then
          (loop (fun s => m_ref05_Right_s2 p1 s) 0).bind fun e => m_ref05_Right_j1 p1 e
        else
          some true
theorem c_ref05_Right {w0 : World} {M : Nat → Prop} {H : List (Nat × Nat × Obj)} {R : List (Nat × Row)} {φ : World → Prop} (p0 : Int) (p1 : ByteArray) (r : Bool) (hm : m_ref05_Right p0 p1 = some r) :
    Cn Try.prog 82 #[.int .u16 p0, .string p1] ⟨w0, M, H, R, φ⟩ (fun x : Unit => .bool r) (fun x => True) (fun x => ⟨w0, M, H, R, φ⟩) := by
 unfold m_ref05_Right at hm
 refine cn_intro (fn := Try.f82) (N := 63) Try.func82 rfl Try.ntmps82 rfl <| c_seq <| c_region <| g_v rfl r_assign <| g_nil <| d_then <| c_seq <| c_region <| g_v rfl r_move ?_
 replace hm := bnd hm
 obtain ⟨⟨x1, x2, x3, x4⟩, hx5, hm⟩ := hm
 refine g_cn ⟨w0, M, _, _, φ⟩ (fun _ h => h) Try.call66 rfl rfl (c_ref05_head p0 _ hx5) (fun _ _ => ?_)
 refine g_v rfl r_move <| g_v rfl (r_extract rfl rfl) <| g_v rfl (r_extract rfl rfl) <| g_v rfl (r_extract rfl rfl) <| g_v rfl (r_extract rfl rfl) <| g_v rfl r_assign <| g_v rfl r_assign <| g_v rfl r_assign <| g_v rfl r_assign <| g_nil ?_
 refine d_then ?_
 refine c_flat [(0, .int .u16 p0), (1, .string p1), (8, .bool x4)] ⟨rfl, rfl, rfl, trivial⟩ (fun u => ?_)
 refine c_sta ⟨w0, M, H, R, φ⟩ (fun _ h => h) <| c_seq <| c_seq <| c_region <| g_v rfl r_move <| g_nil <| d_then ?_
 refine c_cond rfl (fun h7 => ?_) (fun h7 => ?_)
 ·
  replace hm := ite_t hm h7
  refine c_seq <| c_region <| g_v rfl r_move <| g_v rfl r_move ?_
  replace hm := bnd hm
  obtain ⟨⟨x8, x9, x10, x11⟩, hx12, hm⟩ := hm
  refine g_cn ⟨w0, M, _, _, φ⟩ (fun _ h => h) Try.call75 rfl rfl (c_ref05_Names p0 p1 _ hx12) (fun ⟨A13, c14⟩ hc14 => ?_)
  refine g_sta _ (fun W h => (ok_frontR (t := 2000) (t' := 100250) h rfl)) <| g_v rfl r_move <| g_v rfl (r_extract rfl rfl) <| g_v rfl (r_extract rfl rfl) <| g_v rfl (r_extract rfl rfl) <| g_v rfl (r_extract rfl rfl) <| g_v rfl r_assign <| g_v rfl r_assign <| g_v rfl r_assign <| g_v rfl r_assign ?_
  refine g_nil <| d_then ?_
  refine c_flat [(12, .bool x11)] ⟨rfl, trivial⟩ (fun u => ?_)
  refine c_sta ⟨w0, M, H, (100250, ⟨.slice A13 x9.length c14, 9, 1, x9.length, x9.flatMap (fun x : ByteArray => [Value.string x])⟩) :: R, φ⟩ (fun _ h => h) <| c_seq <| c_region <| g_v rfl r_move <| g_v rfl r_assign <| g_nil <| d_then <| c_ret <| d_ret_then ?_
  replace hm := Option.some.inj hm
  subst hm
  refine d_retC () Try.results82 ?_ trivial (fun W h => ok_pre (H1 := []) (R1 := [_]) h (fun W hφ => hφ)) (.inr rfl)
  refine res_tmp <| res_nil ?_
  exact rfl
 ·
  replace hm := ite_f hm (bool_nt h7)
  refine c_skip <| d_then <| c_seq <| c_seq <| c_region <| g_v rfl r_move <| g_nil <| d_then <| c_block <| c_seq ?_
  refine c_region <| g_v rfl (r_eql rfl rfl) <| g_v rfl r_assign <| g_nil <| d_then ?_
  refine c_cond rfl (fun h17 => ?_) (fun h17 => ?_)
  ·
   replace hm := ite_t hm (of_decide_eq_true h17)
   refine c_seq <| c_region <| g_v rfl r_move <| g_v rfl (r_len Try.underlying9 rfl) <| g_v rfl (r_eql rfl rfl) <| g_v rfl r_assign <| g_nil <| d_then <| c_ret <| d_ret_block ?_
   refine d_ret_then ?_
   replace hm := Option.some.inj hm
   subst hm
   refine d_retC () Try.results82 ?_ trivial (fun W h => ok_pre (H1 := []) (R1 := []) h (fun W hφ => hφ)) (.inr rfl)
   refine res_tmp <| res_nil ?_
   exact rfl
  ·
   replace hm := ite_f hm (of_decide_eq_false h17)
   refine c_seq <| c_region <| g_v rfl (r_eql rfl rfl) <| g_v rfl r_assign <| g_nil <| d_then ?_
   refine c_cond rfl (fun h18 => ?_) (fun h18 => ?_)
   ·
    replace hm := ite_t hm (of_decide_eq_true h18)
    refine c_seq <| c_region <| g_v rfl r_move <| g_v rfl (r_len Try.underlying9 rfl) <| g_v rfl (r_eql rfl rfl) <| g_v rfl r_assign <| g_nil <| d_then ?_
    refine c_flat [(4, .bool (decide ((p1.size : Int) = 16)))] ⟨rfl, trivial⟩ (fun u => ?_)
    refine c_ret <| d_ret_block <| d_ret_then ?_
    replace hm := Option.some.inj hm
    subst hm
    refine d_retC () Try.results82 ?_ trivial (fun W h => ok_pre (H1 := []) (R1 := []) h (fun W hφ => hφ)) (.inr rfl)
    refine res_tmp <| res_nil ?_
    exact rfl
   ·
    replace hm := ite_f hm (of_decide_eq_false h18)
    refine c_seq <| c_region <| g_v rfl (r_eql rfl rfl) <| g_v rfl r_assign <| g_nil <| d_then ?_
    refine c_cond rfl (fun h19 => ?_) (fun h19 => ?_)
    ·
     replace hm := ite_t hm (of_decide_eq_true h19)
     refine c_seq <| c_region <| g_v rfl r_assign <| g_nil <| d_then ?_
     refine c_flat [(1, .string p1), (13, .int .i64 0)] ⟨rfl, rfl, trivial⟩ (fun u => ?_)
     refine c_seq ?_
     refine c_cut (ι := Int) [1, 13] (fun i28 => [(13, .int .i64 i28)]) (fun i28 => ⟨w0, M, H, R, φ⟩) (fun i28 => m_ref05_Right_j1 p1 i28 = some r) ?_ (fun i28 u hm => ?_)
     ·
      refine c_block ?_
      replace hm := bnd hm
      obtain ⟨out2, hl2, hr2⟩ := hm
      obtain ⟨n37', hl2⟩ := loop_lp hl2
      refine c_loopU (ι := Nat × Int) [1, 13] (fun ⟨n37, i33⟩ => [(13, .int .i64 i33)]) (fun ⟨n37, i33⟩ => ⟨w0, M, H, R, φ⟩) (fun ⟨n37, i33⟩ => Lp (fun s => m_ref05_Right_s2 p1 s) n37 i33 out2) (fun ⟨n37, i33⟩ => n37) (n37', 0) hl2 ⟨rfl, rfl, trivial⟩ (fun W h => h.phi (fun W hφ => hφ)) (fun ⟨n37, i33⟩ u hlp => ?_)
      obtain ⟨o2, hm, hnx2⟩ := lp_step hlp
      clear hlp
      replace hm : m_ref05_Right_s2 p1 i33 = some o2 := hm
      unfold m_ref05_Right_s2 at hm
      refine c_flat [(1, .string p1), (13, .int .i64 i33)] ⟨rfl, rfl, trivial⟩ (fun u => ?_)
      refine c_seq <| c_seq <| c_region <| g_v rfl r_move <| g_v rfl r_move <| g_v rfl (r_len Try.underlying9 rfl) <| g_v rfl (r_lss rfl rfl) <| g_nil <| d_then ?_
      refine c_cond rfl (fun h38 => ?_) (fun h38 => ?_)
      ·
       replace hm := ite_t hm (of_decide_eq_true h38)
       refine c_skip <| d_then <| c_block <| c_region <| g_v rfl r_move <| g_v rfl (r_add rfl rfl rfl) <| g_v rfl r_move <| g_v rfl r_move ?_
       replace hm := bnd hm
       obtain ⟨b39, hb39, hm⟩ := hm
       refine g_v rfl (r_sat Try.underlying9 rfl rfl hb39) <| g_v rfl (r_conv Try.underlying5 Try.underlying3 rfl rfl) <| g_v rfl (r_add rfl rfl rfl) <| g_v rfl r_assign <| g_nil <| d_normal_block ?_
       obtain ⟨n40, hn40, hlp⟩ := nx_inl hm hnx2
       exact d_round (n40, w64 ((w64 (i33 + 1)) + (w64 b39))) hlp hn40 ⟨rfl, rfl, trivial⟩ (fun W h => h.phi (fun W hφ => hφ))
      ·
       replace hm := ite_f hm (of_decide_eq_false h38)
       refine c_exit <| d_exit_then <| d_exit_then <| d_exit_block ?_
       replace hm := nx_out (C := (fun e => m_ref05_Right_j1 p1 e = some r)) hm hnx2 hr2
       exact d_round i33 hm Nat.zero_lt_one ⟨rfl, rfl, trivial⟩ (fun W h => h.phi (fun W hφ => hφ))
     ·
      unfold m_ref05_Right_j1 at hm
      refine d_flat [(1, .string p1), (13, .int .i64 i28)] ⟨rfl, rfl, trivial⟩ (fun u => ?_)
      refine d_then <| c_seq <| c_region <| g_v rfl r_move <| g_v rfl r_move <| g_v rfl (r_len Try.underlying9 rfl) <| g_v rfl (r_eql rfl rfl) <| g_v rfl r_move ?_
      refine g_if rfl rfl rfl rfl rfl (fun h29 => ?_) (fun h29 => ?_)
      ·
       replace hm := ite_t hm (of_decide_eq_true h29)
       refine g_v rfl r_move <| g_do rfl rfl rfl rfl rfl h29 <| g_v rfl (r_gtr rfl rfl) <| g_v rfl (r_pick1 rfl h29) <| g_v rfl r_assign <| g_nil <| d_then ?_
       refine c_flat [(4, .bool (decide (0 < i28)))] ⟨rfl, trivial⟩ (fun u => ?_)
       refine c_ret <| d_ret_block <| d_ret_then ?_
       replace hm := Option.some.inj hm
       subst hm
       refine d_retC () Try.results82 ?_ trivial (fun W h => ok_pre (H1 := []) (R1 := []) h (fun W hφ => hφ)) (.inr rfl)
       refine res_tmp <| res_nil ?_
       exact rfl
      ·
       replace hm := ite_f hm (of_decide_eq_false h29)
       refine g_no rfl rfl rfl rfl rfl h29 <| g_v rfl (r_pick0 rfl h29) <| g_v rfl r_assign <| g_nil <| d_then <| c_ret <| d_ret_block <| d_ret_then ?_
       replace hm := Option.some.inj hm
       subst hm
       refine d_retC () Try.results82 ?_ trivial (fun W h => ok_pre (H1 := []) (R1 := []) h (fun W hφ => hφ)) (.inr rfl)
       refine res_tmp <| res_nil ?_
       exact rfl
    ·
     replace hm := ite_f hm (of_decide_eq_false h19)
     refine c_skip <| d_normal_block <| d_then <| c_seq <| c_region <| g_v rfl r_assign <| g_nil <| d_then ?_
     refine c_flat [(4, .bool true)] ⟨rfl, trivial⟩ (fun u => ?_)
     refine c_ret ?_
     replace hm := Option.some.inj hm
     subst hm
     refine d_retC () Try.results82 ?_ trivial (fun W h => ok_pre (H1 := []) (R1 := []) h (fun W hφ => hφ)) (.inr rfl)
     refine res_tmp <| res_nil ?_
     exact rfl
noncomputable def m_ref05_Check (p0 : GRR) : Option Int :=
  (m_ref03_Check p0.fName).bind fun x2 =>
  if x2 ≠ 0 then
    some x2
  else
    if 2000 < (p0.fData.size : Int) then
      some 11
    else
      (m_ref05_Right p0.fType p0.fData).bind fun x6 =>
      if x6 = true then
        some 0
      else
        some 10
theorem c_ref05_Check {w0 : World} {M : Nat → Prop} {H : List (Nat × Nat × Obj)} {R : List (Nat × Row)} {φ : World → Prop} (p0 : GRR) (r : Int) (hm : m_ref05_Check p0 = some r) :
    Cn Try.prog 32 #[.agg #[.string p0.fName, .int .u16 p0.fType, .int .u16 p0.fClass, .int .u32 p0.fTTL, .string p0.fData]] ⟨w0, M, H, R, φ⟩ (fun x : Unit => .int .i64 r) (fun x => True) (fun x => ⟨w0, M, H, R, φ⟩) := by
 unfold m_ref05_Check at hm
 refine cn_intro (fn := Try.f32) (N := 22) Try.func32 rfl Try.ntmps32 rfl <| c_seq <| c_region ?_
 refine g_e rfl (e_box 100010 rfl) (fun g1 _ => ?_)
 refine g_v rfl r_assign <| g_nil <| d_then <| c_seq <| c_region <| g_v rfl (r_field (n := 0) Try.underlying27 rfl Try.sizeOf9 rfl rfl) <| g_v rfl (r_load (tag := 100010) rfl rfl rfl Try.isAgg9) ?_
 replace hm := bnd hm
 obtain ⟨x2, hx3, hm⟩ := hm
 refine g_cn ⟨w0, M, _, _, φ⟩ (fun _ h => h) Try.call81 rfl rfl (c_ref03_Check p0.fName _ hx3) (fun _ _ => ?_)
 refine g_v rfl r_assign <| g_nil <| d_then <| c_seq <| c_seq <| c_region <| g_v rfl r_move <| g_v rfl (r_neq rfl rfl) <| g_nil <| d_then ?_
 refine c_cond rfl (fun h4 => ?_) (fun h4 => ?_)
 ·
  replace hm := ite_t hm (of_decide_eq_true h4)
  refine c_seq <| c_region <| g_v rfl r_move <| g_v rfl r_assign <| g_nil <| d_then ?_
  refine c_flat [(2, .int .i64 x2)] ⟨rfl, trivial⟩ (fun u => ?_)
  refine c_sta ⟨w0, M, (100010, g1, .cells #[.string p0.fName, .int .u16 p0.fType, .int .u16 p0.fClass, .int .u32 p0.fTTL, .string p0.fData] 27 (0, 0)) :: H, R, φ⟩ (fun _ h => h) <| c_ret <| d_ret_then ?_
  replace hm := Option.some.inj hm
  subst hm
  refine d_retC () Try.results32 ?_ trivial (fun W h => ok_pre (H1 := [_]) (R1 := []) h (fun W hφ => hφ)) (.inr rfl)
  refine res_tmp <| res_nil ?_
  exact rfl
 ·
  replace hm := ite_f hm (of_decide_eq_false h4)
  refine c_skip <| d_then <| c_seq <| c_seq <| c_region <| g_v rfl (r_field (n := 4) Try.underlying27 rfl Try.sizeOf9 rfl rfl) <| g_v rfl (r_load (tag := 100010) rfl rfl rfl Try.isAgg9) <| g_v rfl (r_len Try.underlying9 rfl) <| g_v rfl (r_gtr rfl rfl) <| g_nil ?_
  refine d_then ?_
  refine c_flat [(1, .pointer (some ⟨g1, 0, none⟩)), (14, .bool (decide (2000 < (p0.fData.size : Int))))] ⟨rfl, rfl, trivial⟩ (fun u => ?_)
  refine c_sta ⟨w0, M, (100010, g1, .cells #[.string p0.fName, .int .u16 p0.fType, .int .u16 p0.fClass, .int .u32 p0.fTTL, .string p0.fData] 27 (0, 0)) :: H, R, φ⟩ (fun _ h => h) ?_
  refine c_cond rfl (fun h5 => ?_) (fun h5 => ?_)
  ·
   replace hm := ite_t hm (of_decide_eq_true h5)
   refine c_seq <| c_region <| g_v rfl r_assign <| g_nil <| d_then <| c_ret <| d_ret_then ?_
   replace hm := Option.some.inj hm
   subst hm
   refine d_retC () Try.results32 ?_ trivial (fun W h => ok_pre (H1 := [_]) (R1 := []) h (fun W hφ => hφ)) (.inr rfl)
   refine res_tmp <| res_nil ?_
   exact rfl
  ·
   replace hm := ite_f hm (of_decide_eq_false h5)
   refine c_skip <| d_then <| c_seq <| c_region <| g_v rfl (r_field (n := 1) Try.underlying27 rfl Try.sizeOf24 rfl rfl) <| g_v rfl (r_load (tag := 100010) rfl rfl rfl Try.isAgg24) <| g_v rfl (r_field (n := 4) Try.underlying27 rfl Try.sizeOf9 rfl rfl) <| g_v rfl (r_load (tag := 100010) rfl rfl rfl Try.isAgg9) ?_
   replace hm := bnd hm
   obtain ⟨x6, hx7, hm⟩ := hm
   refine g_cn ⟨w0, M, _, _, φ⟩ (fun _ h => h) Try.call82 rfl rfl (c_ref05_Right p0.fType p0.fData _ hx7) (fun _ _ => ?_)
   refine g_v rfl r_assign <| g_nil <| d_then <| c_seq <| c_seq <| c_region <| g_v rfl r_move <| g_v rfl (r_not rfl) <| g_nil <| d_then ?_
   refine c_cond rfl (fun h8 => ?_) (fun h8 => ?_)
   ·
    have h8' : x6 = false := by revert h8; cases x6 <;> simp
    replace hm := ite_f hm (bool_nt h8')
    refine c_seq <| c_region <| g_v rfl r_assign <| g_nil <| d_then ?_
    refine c_flat [(2, .int .i64 10)] ⟨rfl, trivial⟩ (fun u => ?_)
    refine c_ret <| d_ret_then ?_
    replace hm := Option.some.inj hm
    subst hm
    refine d_retC () Try.results32 ?_ trivial (fun W h => ok_pre (H1 := [_]) (R1 := []) h (fun W hφ => hφ)) (.inr rfl)
    refine res_tmp <| res_nil ?_
    exact rfl
   ·
    have h8' : x6 = true := by revert h8; cases x6 <;> simp
    replace hm := ite_t hm h8'
    refine c_skip <| d_then <| c_seq <| c_region <| g_v rfl r_assign <| g_nil <| d_then ?_
    refine c_flat [(2, .int .i64 0)] ⟨rfl, trivial⟩ (fun u => ?_)
    refine c_ret ?_
    replace hm := Option.some.inj hm
    subst hm
    refine d_retC () Try.results32 ?_ trivial (fun W h => ok_pre (H1 := [_]) (R1 := []) h (fun W hφ => hφ)) (.inr rfl)
    refine res_tmp <| res_nil ?_
    exact rfl
noncomputable def m_ref05_Get_j5 (x2 : ByteArray) (i16 : Int) (i24 : Int) (i32 : Int) (x42 : Int) (s97 : ByteArray) : Option (GRR × Int × Int) :=
  (m_ref05_Check (⟨x2, IntKind.u16.wrap i16, IntKind.u16.wrap i24, IntKind.u32.wrap i32, s97⟩ : GRR)).bind fun x98 =>
  if x98 ≠ 0 then
    some ((⟨(⟨#[]⟩ : ByteArray), 0, 0, 0, (⟨#[]⟩ : ByteArray)⟩ : GRR), 0, x98)
  else
    some ((⟨x2, IntKind.u16.wrap i16, IntKind.u16.wrap i24, IntKind.u32.wrap i32, s97⟩ : GRR), x42, 0)
noncomputable def m_ref05_Get_j6 (p0 : ByteArray) (x50 : Int) (x42 : Int) (x2 : ByteArray) (i16 : Int) (i24 : Int) (i32 : Int) (s134 : ByteArray) (i135 : Int) : Option (GRR × Int × Int) :=
  (m_ref04_Raw p0 i135 x50).bind fun (z140 : ByteArray × Int × Int) =>
  if z140.2.2 ≠ 0 then
    some ((⟨(⟨#[]⟩ : ByteArray), 0, 0, 0, (⟨#[]⟩ : ByteArray)⟩ : GRR), 0, z140.2.2)
  else
    if z140.2.1 ≠ x42 then
      some ((⟨(⟨#[]⟩ : ByteArray), 0, 0, 0, (⟨#[]⟩ : ByteArray)⟩ : GRR), 0, 10)
    else
      (sadd s134 z140.1).bind fun s143 =>
      m_ref05_Get_j5 x2 i16 i24 i32 x42 s143
noncomputable def m_ref05_Get_s7 (x49 : Int) (p0 : ByteArray) (s155 : ByteArray) (i156 : Int) (i157 : Int) : Option ((ByteArray × Int × Int) ⊕ ((ByteArray × Int) ⊕ (GRR × Int × Int))) :=
  if i157 < x49 then
    (m_ref04_Name p0 i156).bind fun (z175 : ByteArray × Int × Int) =>
    if z175.2.2 ≠ 0 then
      some (.inr (.inr ((⟨(⟨#[]⟩ : ByteArray), 0, 0, 0, (⟨#[]⟩ : ByteArray)⟩ : GRR), 0, z175.2.2)))
    else
      (sadd s155 z175.1).bind fun s177 =>
      some (.inl (s177, z175.2.1, w64 (i157 + 1)))
  else
    some (.inr (.inl (s155, i156)))
noncomputable def m_ref05_Get_j4 (p0 : ByteArray) (i16 : Int) (x2 : ByteArray) (i24 : Int) (i32 : Int) (i39 : Int) (i40 : Int) : Option (GRR × Int × Int) :=
  (m_ref04_Raw p0 i39 i40).bind fun (z45 : ByteArray × Int × Int) =>
  if z45.2.2 ≠ 0 then
    some ((⟨(⟨#[]⟩ : ByteArray), 0, 0, 0, (⟨#[]⟩ : ByteArray)⟩ : GRR), 0, z45.2.2)
  else
    (m_ref05_head (IntKind.u16.wrap i16)).bind fun (z53 : Int × Int × Int × Bool) =>
    if z53.2.2.2 = true then
      (m_ref04_Raw p0 i39 z53.1).bind fun (z106 : ByteArray × Int × Int) =>
      if z106.2.2 ≠ 0 then
        some ((⟨(⟨#[]⟩ : ByteArray), 0, 0, 0, (⟨#[]⟩ : ByteArray)⟩ : GRR), 0, z106.2.2)
      else
        (loop (fun s => m_ref05_Get_s7 z53.2.1 p0 s.1 s.2.1 s.2.2) (z106.1, z106.2.1, 0)).bind fun e => Sum.elim (fun e => m_ref05_Get_j6 p0 z53.2.2.1 z45.2.1 x2 i16 i24 i32 e.1 e.2) (fun x => some x) e
    else
      m_ref05_Get_j5 x2 i16 i24 i32 z45.2.1 z45.1
noncomputable def m_ref05_Get_j8 (p0 : ByteArray) (i31 : Int) (i16 : Int) (x2 : ByteArray) (i24 : Int) (i32 : Int) : Option (GRR × Int × Int) :=
  (m_ref04_Number p0 i31 2).bind fun (z183 : Int × Int × Int) =>
  if z183.2.2 ≠ 0 then
    some ((⟨(⟨#[]⟩ : ByteArray), 0, 0, 0, (⟨#[]⟩ : ByteArray)⟩ : GRR), 0, z183.2.2)
  else
    m_ref05_Get_j4 p0 i16 x2 i24 i32 z183.2.1 z183.1
noncomputable def m_ref05_Get_j3 (p0 : ByteArray) (i16 : Int) (x2 : ByteArray) (i24 : Int) (i31 : Int) (i32 : Int) : Option (GRR × Int × Int) :=
  m_ref05_Get_j8 p0 i31 i16 x2 i24 i32
noncomputable def m_ref05_Get_j9 (p0 : ByteArray) (i23 : Int) (i16 : Int) (x2 : ByteArray) (i24 : Int) : Option (GRR × Int × Int) :=
  (m_ref04_Number p0 i23 4).bind fun (z189 : Int × Int × Int) =>
  if z189.2.2 ≠ 0 then
    some ((⟨(⟨#[]⟩ : ByteArray), 0, 0, 0, (⟨#[]⟩ : ByteArray)⟩ : GRR), 0, z189.2.2)
  else
    m_ref05_Get_j3 p0 i16 x2 i24 z189.2.1 z189.1
noncomputable def m_ref05_Get_j2 (p0 : ByteArray) (i16 : Int) (x2 : ByteArray) (i23 : Int) (i24 : Int) : Option (GRR × Int × Int) :=
  m_ref05_Get_j9 p0 i23 i16 x2 i24
noncomputable def m_ref05_Get_j10 (p0 : ByteArray) (i15 : Int) (i16 : Int) (x2 : ByteArray) : Option (GRR × Int × Int) :=
  (m_ref04_Number p0 i15 2).bind fun (z195 : Int × Int × Int) =>
  if z195.2.2 ≠ 0 then
    some ((⟨(⟨#[]⟩ : ByteArray), 0, 0, 0, (⟨#[]⟩ : ByteArray)⟩ : GRR), 0, z195.2.2)
  else
    m_ref05_Get_j2 p0 i16 x2 z195.2.1 z195.1
noncomputable def m_ref05_Get_j1 (p0 : ByteArray) (x2 : ByteArray) (i15 : Int) (i16 : Int) : Option (GRR × Int × Int) :=
  m_ref05_Get_j10 p0 i15 i16 x2
noncomputable def m_ref05_Get_j11 (p0 : ByteArray) (x3 : Int) (x2 : ByteArray) : Option (GRR × Int × Int) :=
  (m_ref04_Number p0 x3 2).bind fun (z201 : Int × Int × Int) =>
  if z201.2.2 ≠ 0 then
    some ((⟨(⟨#[]⟩ : ByteArray), 0, 0, 0, (⟨#[]⟩ : ByteArray)⟩ : GRR), 0, z201.2.2)
  else
    m_ref05_Get_j1 p0 x2 z201.2.1 z201.1
noncomputable def m_ref05_Get (p0 : ByteArray) (p1 : Int) : Option (GRR × Int × Int) :=
  (m_ref04_Name p0 p1).bind fun (z6 : ByteArray × Int × Int) =>
  if z6.2.2 ≠ 0 then
    some ((⟨(⟨#[]⟩ : ByteArray), 0, 0, 0, (⟨#[]⟩ : ByteArray)⟩ : GRR), 0, z6.2.2)
  else
    m_ref05_Get_j11 p0 z6.2.1 z6.1
theorem c_ref05_Get {w0 : World} {M : Nat → Prop} {H : List (Nat × Nat × Obj)} {R : List (Nat × Row)} {φ : World → Prop} (p0 : ByteArray) (p1 : Int) (r : GRR × Int × Int) (hm : m_ref05_Get p0 p1 = some r) :
    Cn Try.prog 19 #[.string p0, .int .i64 p1] ⟨w0, M, H, R, φ⟩ (fun x : Unit => .tuple #[.agg #[.string r.1.fName, .int .u16 r.1.fType, .int .u16 r.1.fClass, .int .u32 r.1.fTTL, .string r.1.fData], .int .i64 r.2.1, .int .i64 r.2.2]) (fun x => True) (fun x => ⟨w0, M, H, R, φ⟩) := by
 unfold m_ref05_Get at hm
 refine cn_intro (fn := Try.f19) (N := 161) Try.func19 rfl Try.ntmps19 rfl <| c_seq <| c_region ?_
 refine g_e rfl (e_alloc 100040 Try.zeroValue27) (fun g1 _ => ?_)
 refine g_v rfl r_assign <| g_v rfl r_assign <| g_nil <| d_then <| c_seq <| c_region <| g_v rfl r_move <| g_v rfl r_move ?_
 replace hm := bnd hm
 obtain ⟨⟨x2, x3, x4⟩, hx5, hm⟩ := hm
 refine g_cn ⟨w0, M, _, _, φ⟩ (fun _ h => h) Try.call63 rfl rfl (c_ref04_Name p0 p1 _ hx5) (fun _ _ => ?_)
 refine g_v rfl r_move <| g_v rfl (r_extract rfl rfl) <| g_v rfl (r_extract rfl rfl) <| g_v rfl (r_extract rfl rfl) <| g_v rfl r_assign <| g_v rfl r_assign <| g_v rfl r_assign <| g_nil <| d_then ?_
 refine c_flat [(0, .string p0), (4, .pointer (some ⟨g1, 0, none⟩)), (7, .string x2), (8, .int .i64 x3), (9, .int .i64 x4)] ⟨rfl, rfl, rfl, rfl, rfl, trivial⟩ (fun u => ?_)
 refine c_sta ⟨w0, M, (100040, g1, .cells #[.string (⟨#[]⟩ : ByteArray), .int .u16 0, .int .u16 0, .int .u32 0, .string (⟨#[]⟩ : ByteArray)] 27 (0, 0)) :: H, R, φ⟩ (fun _ h => h) <| c_seq <| c_seq <| c_region <| g_v rfl r_move <| g_v rfl (r_neq rfl rfl) <| g_nil <| d_then ?_
 refine c_cond rfl (fun h7 => ?_) (fun h7 => ?_)
 ·
  replace hm := ite_t hm (of_decide_eq_true h7)
  refine c_seq <| c_region <| g_v rfl (r_build _ rfl (bld27_21)) <| g_v rfl r_move <| g_storeL (tag := 100040) rfl rfl rfl rfl Try.sizeOf27 rfl rfl <| g_v rfl r_assign <| g_v rfl r_assign <| g_nil <| d_then <| c_ret ?_
  refine d_ret_then ?_
  replace hm := Option.some.inj hm
  subst hm
  refine d_retC () Try.results19 ?_ trivial (fun W h => ok_pre (H1 := [_]) (R1 := []) h (fun W hφ => hφ)) (.inr rfl)
  refine res_agg (tag := 100040) rfl rfl Try.isAgg27 Try.sizeOf27 <| res_tmp <| res_tmp <| res_nil ?_
  exact rfl
 ·
  replace hm := ite_f hm (of_decide_eq_false h7)
  refine c_skip <| d_then <| c_seq <| c_region ?_
  refine g_e rfl (e_alloc 100100 Try.zeroValue93) (fun g8 _ => ?_)
  refine g_nil <| d_then <| c_seq <| c_seq <| c_region <| g_v rfl r_assign <| g_nil <| d_then <| c_block <| c_rounds 64 ?_
  refine c_seq <| c_seq <| c_region <| g_v rfl r_move <| g_v rfl (r_lss rfl rfl) <| g_nil <| d_then <| c_cond1 rfl (by decide) <| c_skip <| d_then ?_
  refine c_seq ?_
  refine c_cut (ι := Int × Int) [0, 4, 7, 8, 10, 11] (fun ⟨i15, i16⟩ => [(8, .int .i64 i15)]) (fun ⟨i15, i16⟩ => ⟨w0, M, (100100, g8, .cells #[.int .i64 i16, .int .i64 0, .int .i64 0, .int .i64 0] 93 (0, 0)) :: (100040, g1, .cells #[.string (⟨#[]⟩ : ByteArray), .int .u16 0, .int .u16 0, .int .u32 0, .string (⟨#[]⟩ : ByteArray)] 27 (0, 0)) :: H, R, φ⟩) (fun ⟨i15, i16⟩ => m_ref05_Get_j1 p0 x2 i15 i16 = some r) ?_ (fun ⟨i15, i16⟩ u hm => ?_)
  ·
   refine c_block <| c_seq <| c_region <| g_v rfl r_assign <| g_nil <| d_then <| c_seq ?_
   refine c_cut (ι := Unit) [0, 4, 7, 8, 10, 11, 12] (fun _ => []) (fun _ => ⟨w0, M, (100100, g8, .cells #[.int .i64 0, .int .i64 0, .int .i64 0, .int .i64 0] 93 (0, 0)) :: (100040, g1, .cells #[.string (⟨#[]⟩ : ByteArray), .int .u16 0, .int .u16 0, .int .u32 0, .string (⟨#[]⟩ : ByteArray)] 27 (0, 0)) :: H, R, φ⟩) (fun _ => m_ref05_Get_j11 p0 x3 x2 = some r) ?_ (fun _ u hm => ?_)
   ·
    refine c_seq <| c_region <| g_v rfl r_move <| g_v rfl (r_eql rfl rfl) <| g_nil <| d_then ?_
    refine c_flat [(0, .string p0), (4, .pointer (some ⟨g1, 0, none⟩)), (7, .string x2), (8, .int .i64 x3), (10, .pointer (some ⟨g8, 0, none⟩)), (11, .int .i64 0), (12, .int .i64 2), (50, .bool (decide (0 = 2)))] ⟨rfl, rfl, rfl, rfl, rfl, rfl, rfl, rfl, trivial⟩ (fun u => ?_)
    refine c_sta ⟨w0, M, (100100, g8, .cells #[.int .i64 0, .int .i64 0, .int .i64 0, .int .i64 0] 93 (0, 0)) :: (100040, g1, .cells #[.string (⟨#[]⟩ : ByteArray), .int .u16 0, .int .u16 0, .int .u32 0, .string (⟨#[]⟩ : ByteArray)] 27 (0, 0)) :: H, R, φ⟩ (fun _ h => h) <| c_cond0 rfl (by decide) <| c_skip ?_
    exact d_round () hm Nat.zero_lt_one ⟨rfl, rfl, rfl, rfl, rfl, rfl, rfl, trivial⟩ (fun W h => h.phi (fun W hφ => hφ))
   ·
    unfold m_ref05_Get_j11 at hm
    refine d_flat [(0, .string p0), (4, .pointer (some ⟨g1, 0, none⟩)), (7, .string x2), (8, .int .i64 x3), (10, .pointer (some ⟨g8, 0, none⟩)), (11, .int .i64 0), (12, .int .i64 2)] ⟨rfl, rfl, rfl, rfl, rfl, rfl, rfl, trivial⟩ (fun u => ?_)
    refine d_sta ⟨w0, M, (100100, g8, .cells #[.int .i64 0, .int .i64 0, .int .i64 0, .int .i64 0] 93 (0, 0)) :: (100040, g1, .cells #[.string (⟨#[]⟩ : ByteArray), .int .u16 0, .int .u16 0, .int .u32 0, .string (⟨#[]⟩ : ByteArray)] 27 (0, 0)) :: H, R, φ⟩ (fun _ h => h) <| d_then <| c_seq <| c_region <| g_v rfl r_move <| g_v rfl r_move <| g_v rfl r_move ?_
    replace hm := bnd hm
    obtain ⟨⟨x197, x198, x199⟩, hx200, hm⟩ := hm
    refine g_cn ⟨w0, M, _, _, φ⟩ (fun _ h => h) Try.call64 rfl rfl (c_ref04_Number p0 x3 2 _ hx200) (fun _ _ => ?_)
    refine g_v rfl r_move <| g_v rfl (r_extract rfl rfl) <| g_v rfl (r_extract rfl rfl) <| g_v rfl (r_extract rfl rfl) <| g_v rfl r_assign <| g_v rfl r_assign <| g_v rfl r_assign <| g_nil <| d_then ?_
    refine c_flat [(0, .string p0), (4, .pointer (some ⟨g1, 0, none⟩)), (7, .string x2), (10, .pointer (some ⟨g8, 0, none⟩)), (11, .int .i64 0), (13, .int .i64 x197), (14, .int .i64 x198), (15, .int .i64 x199)] ⟨rfl, rfl, rfl, rfl, rfl, rfl, rfl, rfl, trivial⟩ (fun u => ?_)
    refine c_seq <| c_seq <| c_region <| g_v rfl r_move <| g_v rfl (r_neq rfl rfl) <| g_nil <| d_then ?_
    refine c_cond rfl (fun h202 => ?_) (fun h202 => ?_)
    ·
     replace hm := ite_t hm (of_decide_eq_true h202)
     refine c_seq <| c_region <| g_v rfl (r_build _ rfl (bld27_21)) <| g_v rfl r_move <| g_storeL (tag := 100040) rfl rfl rfl rfl Try.sizeOf27 rfl rfl <| g_v rfl r_assign <| g_v rfl r_assign <| g_nil <| d_then <| c_ret ?_
     refine d_ret_then <| d_ret_block <| d_ret_then <| d_ret_then <| d_ret_then <| d_ret_block <| d_ret_then ?_
     replace hm := Option.some.inj hm
     subst hm
     refine d_retC () Try.results19 ?_ trivial (fun W h => ok_pre (H1 := [_, _]) (R1 := []) h (fun W hφ => hφ)) (.inr rfl)
     refine res_agg (tag := 100040) rfl rfl Try.isAgg27 Try.sizeOf27 <| res_tmp <| res_tmp <| res_nil ?_
     exact rfl
    ·
     replace hm := ite_f hm (of_decide_eq_false h202)
     refine c_skip <| d_then <| c_seq <| c_region <| g_v rfl r_move <| g_v rfl r_move <| g_v rfl (r_elemH (n := 0) Try.underlying93 Try.sizeOf3 rfl rfl (by decide) (by decide) rfl) <| g_storeL (tag := 100100) rfl rfl rfl rfl Try.sizeOf3 rfl rfl <| g_nil <| d_then ?_
     refine c_region <| g_v rfl r_move <| g_v rfl r_assign <| g_nil <| d_normal_block ?_
     exact d_round (x198, x197) hm Nat.zero_lt_one ⟨rfl, rfl, rfl, rfl, rfl, rfl, trivial⟩ (fun W h => h.phi (fun W hφ => hφ))
  ·
   unfold m_ref05_Get_j1 at hm
   refine d_flat [(0, .string p0), (4, .pointer (some ⟨g1, 0, none⟩)), (7, .string x2), (8, .int .i64 i15), (10, .pointer (some ⟨g8, 0, none⟩)), (11, .int .i64 0)] ⟨rfl, rfl, rfl, rfl, rfl, rfl, trivial⟩ (fun u => ?_)
   refine d_sta ⟨w0, M, (100100, g8, .cells #[.int .i64 i16, .int .i64 0, .int .i64 0, .int .i64 0] 93 (0, 0)) :: (100040, g1, .cells #[.string (⟨#[]⟩ : ByteArray), .int .u16 0, .int .u16 0, .int .u32 0, .string (⟨#[]⟩ : ByteArray)] 27 (0, 0)) :: H, R, φ⟩ (fun _ h => h) <| d_then <| c_region <| g_v rfl r_move <| g_v rfl (r_add rfl rfl (show IntKind.i64.wrap (0 + 1) = 1 by decide)) <| g_v rfl r_assign <| g_nil <| d_rounds ?_
   refine c_flat [(0, .string p0), (4, .pointer (some ⟨g1, 0, none⟩)), (7, .string x2), (8, .int .i64 i15), (10, .pointer (some ⟨g8, 0, none⟩)), (11, .int .i64 1)] ⟨rfl, rfl, rfl, rfl, rfl, rfl, trivial⟩ (fun u => ?_)
   refine c_seq <| c_seq <| c_region <| g_v rfl r_move <| g_v rfl (r_lss rfl rfl) <| g_nil <| d_then <| c_cond1 rfl (by decide) <| c_skip <| d_then ?_
   refine c_seq ?_
   refine c_cut (ι := Int × Int) [0, 4, 7, 8, 10, 11] (fun ⟨i23, i24⟩ => [(8, .int .i64 i23)]) (fun ⟨i23, i24⟩ => ⟨w0, M, (100100, g8, .cells #[.int .i64 i16, .int .i64 i24, .int .i64 0, .int .i64 0] 93 (0, 0)) :: (100040, g1, .cells #[.string (⟨#[]⟩ : ByteArray), .int .u16 0, .int .u16 0, .int .u32 0, .string (⟨#[]⟩ : ByteArray)] 27 (0, 0)) :: H, R, φ⟩) (fun ⟨i23, i24⟩ => m_ref05_Get_j2 p0 i16 x2 i23 i24 = some r) ?_ (fun ⟨i23, i24⟩ u hm => ?_)
   ·
    refine c_block <| c_seq <| c_region <| g_v rfl r_assign <| g_nil <| d_then <| c_seq ?_
    refine c_cut (ι := Unit) [0, 4, 7, 8, 10, 11, 12] (fun _ => []) (fun _ => ⟨w0, M, (100100, g8, .cells #[.int .i64 i16, .int .i64 0, .int .i64 0, .int .i64 0] 93 (0, 0)) :: (100040, g1, .cells #[.string (⟨#[]⟩ : ByteArray), .int .u16 0, .int .u16 0, .int .u32 0, .string (⟨#[]⟩ : ByteArray)] 27 (0, 0)) :: H, R, φ⟩) (fun _ => m_ref05_Get_j10 p0 i15 i16 x2 = some r) ?_ (fun _ u hm => ?_)
    ·
     refine c_seq <| c_region <| g_v rfl r_move <| g_v rfl (r_eql rfl rfl) <| g_nil <| d_then <| c_cond0 rfl (by decide) <| c_skip ?_
     exact d_round () hm Nat.zero_lt_one ⟨rfl, rfl, rfl, rfl, rfl, rfl, rfl, trivial⟩ (fun W h => h.phi (fun W hφ => hφ))
    ·
     unfold m_ref05_Get_j10 at hm
     refine d_flat [(0, .string p0), (4, .pointer (some ⟨g1, 0, none⟩)), (7, .string x2), (8, .int .i64 i15), (10, .pointer (some ⟨g8, 0, none⟩)), (11, .int .i64 1), (12, .int .i64 2)] ⟨rfl, rfl, rfl, rfl, rfl, rfl, rfl, trivial⟩ (fun u => ?_)
     refine d_then <| c_seq <| c_region <| g_v rfl r_move <| g_v rfl r_move <| g_v rfl r_move ?_
     replace hm := bnd hm
     obtain ⟨⟨x191, x192, x193⟩, hx194, hm⟩ := hm
     refine g_cn ⟨w0, M, _, _, φ⟩ (fun _ h => h) Try.call64 rfl rfl (c_ref04_Number p0 i15 2 _ hx194) (fun _ _ => ?_)
     refine g_v rfl r_move <| g_v rfl (r_extract rfl rfl) <| g_v rfl (r_extract rfl rfl) <| g_v rfl (r_extract rfl rfl) <| g_v rfl r_assign <| g_v rfl r_assign <| g_v rfl r_assign <| g_nil <| d_then ?_
     refine c_flat [(0, .string p0), (4, .pointer (some ⟨g1, 0, none⟩)), (7, .string x2), (10, .pointer (some ⟨g8, 0, none⟩)), (11, .int .i64 1), (13, .int .i64 x191), (14, .int .i64 x192), (15, .int .i64 x193)] ⟨rfl, rfl, rfl, rfl, rfl, rfl, rfl, rfl, trivial⟩ (fun u => ?_)
     refine c_seq <| c_seq <| c_region <| g_v rfl r_move <| g_v rfl (r_neq rfl rfl) <| g_nil <| d_then ?_
     refine c_cond rfl (fun h196 => ?_) (fun h196 => ?_)
     ·
      replace hm := ite_t hm (of_decide_eq_true h196)
      refine c_seq <| c_region <| g_v rfl (r_build _ rfl (bld27_21)) <| g_v rfl r_move <| g_storeL (tag := 100040) rfl rfl rfl rfl Try.sizeOf27 rfl rfl <| g_v rfl r_assign <| g_v rfl r_assign <| g_nil <| d_then <| c_ret ?_
      refine d_ret_then <| d_ret_block <| d_ret_then <| d_ret_then <| d_ret_then <| d_ret_block <| d_ret_then ?_
      replace hm := Option.some.inj hm
      subst hm
      refine d_retC () Try.results19 ?_ trivial (fun W h => ok_pre (H1 := [_, _]) (R1 := []) h (fun W hφ => hφ)) (.inr rfl)
      refine res_agg (tag := 100040) rfl rfl Try.isAgg27 Try.sizeOf27 <| res_tmp <| res_tmp <| res_nil ?_
      exact rfl
     ·
      replace hm := ite_f hm (of_decide_eq_false h196)
      refine c_skip <| d_then <| c_seq <| c_region <| g_v rfl r_move <| g_v rfl r_move <| g_v rfl (r_elemH (n := 1) Try.underlying93 Try.sizeOf3 rfl rfl (by decide) (by decide) rfl) <| g_storeL (tag := 100100) rfl rfl rfl rfl Try.sizeOf3 rfl rfl <| g_nil <| d_then ?_
      refine c_region <| g_v rfl r_move <| g_v rfl r_assign <| g_nil <| d_normal_block ?_
      exact d_round (x192, x191) hm Nat.zero_lt_one ⟨rfl, rfl, rfl, rfl, rfl, rfl, trivial⟩ (fun W h => h.phi (fun W hφ => hφ))
   ·
    unfold m_ref05_Get_j2 at hm
    refine d_flat [(0, .string p0), (4, .pointer (some ⟨g1, 0, none⟩)), (7, .string x2), (8, .int .i64 i23), (10, .pointer (some ⟨g8, 0, none⟩)), (11, .int .i64 1)] ⟨rfl, rfl, rfl, rfl, rfl, rfl, trivial⟩ (fun u => ?_)
    refine d_sta ⟨w0, M, (100100, g8, .cells #[.int .i64 i16, .int .i64 i24, .int .i64 0, .int .i64 0] 93 (0, 0)) :: (100040, g1, .cells #[.string (⟨#[]⟩ : ByteArray), .int .u16 0, .int .u16 0, .int .u32 0, .string (⟨#[]⟩ : ByteArray)] 27 (0, 0)) :: H, R, φ⟩ (fun _ h => h) <| d_then <| c_region <| g_v rfl r_move <| g_v rfl (r_add rfl rfl (show IntKind.i64.wrap (1 + 1) = 2 by decide)) <| g_v rfl r_assign <| g_nil <| d_rounds ?_
    refine c_flat [(0, .string p0), (4, .pointer (some ⟨g1, 0, none⟩)), (7, .string x2), (8, .int .i64 i23), (10, .pointer (some ⟨g8, 0, none⟩)), (11, .int .i64 2)] ⟨rfl, rfl, rfl, rfl, rfl, rfl, trivial⟩ (fun u => ?_)
    refine c_seq <| c_seq <| c_region <| g_v rfl r_move <| g_v rfl (r_lss rfl rfl) <| g_nil <| d_then <| c_cond1 rfl (by decide) <| c_skip <| d_then ?_
    refine c_seq ?_
    refine c_cut (ι := Int × Int) [0, 4, 7, 8, 10, 11] (fun ⟨i31, i32⟩ => [(8, .int .i64 i31)]) (fun ⟨i31, i32⟩ => ⟨w0, M, (100100, g8, .cells #[.int .i64 i16, .int .i64 i24, .int .i64 i32, .int .i64 0] 93 (0, 0)) :: (100040, g1, .cells #[.string (⟨#[]⟩ : ByteArray), .int .u16 0, .int .u16 0, .int .u32 0, .string (⟨#[]⟩ : ByteArray)] 27 (0, 0)) :: H, R, φ⟩) (fun ⟨i31, i32⟩ => m_ref05_Get_j3 p0 i16 x2 i24 i31 i32 = some r) ?_ (fun ⟨i31, i32⟩ u hm => ?_)
    ·
     refine c_block <| c_seq <| c_region <| g_v rfl r_assign <| g_nil <| d_then <| c_seq ?_
     refine c_cut (ι := Unit) [0, 4, 7, 8, 10, 11, 12] (fun _ => [(12, .int .i64 4)]) (fun _ => ⟨w0, M, (100100, g8, .cells #[.int .i64 i16, .int .i64 i24, .int .i64 0, .int .i64 0] 93 (0, 0)) :: (100040, g1, .cells #[.string (⟨#[]⟩ : ByteArray), .int .u16 0, .int .u16 0, .int .u32 0, .string (⟨#[]⟩ : ByteArray)] 27 (0, 0)) :: H, R, φ⟩) (fun _ => m_ref05_Get_j9 p0 i23 i16 x2 i24 = some r) ?_ (fun _ u hm => ?_)
     ·
      refine c_seq <| c_region <| g_v rfl r_move <| g_v rfl (r_eql rfl rfl) <| g_nil <| d_then <| c_cond1 rfl (by decide) <| c_region <| g_v rfl r_assign <| g_nil ?_
      exact d_round () hm Nat.zero_lt_one ⟨rfl, rfl, rfl, rfl, rfl, rfl, rfl, trivial⟩ (fun W h => h.phi (fun W hφ => hφ))
     ·
      unfold m_ref05_Get_j9 at hm
      refine d_flat [(0, .string p0), (4, .pointer (some ⟨g1, 0, none⟩)), (7, .string x2), (8, .int .i64 i23), (10, .pointer (some ⟨g8, 0, none⟩)), (11, .int .i64 2), (12, .int .i64 4)] ⟨rfl, rfl, rfl, rfl, rfl, rfl, rfl, trivial⟩ (fun u => ?_)
      refine d_then <| c_seq <| c_region <| g_v rfl r_move <| g_v rfl r_move <| g_v rfl r_move ?_
      replace hm := bnd hm
      obtain ⟨⟨x185, x186, x187⟩, hx188, hm⟩ := hm
      refine g_cn ⟨w0, M, _, _, φ⟩ (fun _ h => h) Try.call64 rfl rfl (c_ref04_Number p0 i23 4 _ hx188) (fun _ _ => ?_)
      refine g_v rfl r_move <| g_v rfl (r_extract rfl rfl) <| g_v rfl (r_extract rfl rfl) <| g_v rfl (r_extract rfl rfl) <| g_v rfl r_assign <| g_v rfl r_assign <| g_v rfl r_assign <| g_nil <| d_then ?_
      refine c_flat [(0, .string p0), (4, .pointer (some ⟨g1, 0, none⟩)), (7, .string x2), (10, .pointer (some ⟨g8, 0, none⟩)), (11, .int .i64 2), (13, .int .i64 x185), (14, .int .i64 x186), (15, .int .i64 x187)] ⟨rfl, rfl, rfl, rfl, rfl, rfl, rfl, rfl, trivial⟩ (fun u => ?_)
      refine c_seq <| c_seq <| c_region <| g_v rfl r_move <| g_v rfl (r_neq rfl rfl) <| g_nil <| d_then ?_
      refine c_cond rfl (fun h190 => ?_) (fun h190 => ?_)
      ·
       replace hm := ite_t hm (of_decide_eq_true h190)
       refine c_seq <| c_region <| g_v rfl (r_build _ rfl (bld27_21)) <| g_v rfl r_move <| g_storeL (tag := 100040) rfl rfl rfl rfl Try.sizeOf27 rfl rfl <| g_v rfl r_assign <| g_v rfl r_assign <| g_nil <| d_then <| c_ret ?_
       refine d_ret_then <| d_ret_block <| d_ret_then <| d_ret_then <| d_ret_then <| d_ret_block <| d_ret_then ?_
       replace hm := Option.some.inj hm
       subst hm
       refine d_retC () Try.results19 ?_ trivial (fun W h => ok_pre (H1 := [_, _]) (R1 := []) h (fun W hφ => hφ)) (.inr rfl)
       refine res_agg (tag := 100040) rfl rfl Try.isAgg27 Try.sizeOf27 <| res_tmp <| res_tmp <| res_nil ?_
       exact rfl
      ·
       replace hm := ite_f hm (of_decide_eq_false h190)
       refine c_skip <| d_then <| c_seq <| c_region <| g_v rfl r_move <| g_v rfl r_move <| g_v rfl (r_elemH (n := 2) Try.underlying93 Try.sizeOf3 rfl rfl (by decide) (by decide) rfl) <| g_storeL (tag := 100100) rfl rfl rfl rfl Try.sizeOf3 rfl rfl <| g_nil <| d_then ?_
       refine c_region <| g_v rfl r_move <| g_v rfl r_assign <| g_nil <| d_normal_block ?_
       exact d_round (x186, x185) hm Nat.zero_lt_one ⟨rfl, rfl, rfl, rfl, rfl, rfl, trivial⟩ (fun W h => h.phi (fun W hφ => hφ))
    ·
     unfold m_ref05_Get_j3 at hm
     refine d_flat [(0, .string p0), (4, .pointer (some ⟨g1, 0, none⟩)), (7, .string x2), (8, .int .i64 i31), (10, .pointer (some ⟨g8, 0, none⟩)), (11, .int .i64 2)] ⟨rfl, rfl, rfl, rfl, rfl, rfl, trivial⟩ (fun u => ?_)
     refine d_sta ⟨w0, M, (100100, g8, .cells #[.int .i64 i16, .int .i64 i24, .int .i64 i32, .int .i64 0] 93 (0, 0)) :: (100040, g1, .cells #[.string (⟨#[]⟩ : ByteArray), .int .u16 0, .int .u16 0, .int .u32 0, .string (⟨#[]⟩ : ByteArray)] 27 (0, 0)) :: H, R, φ⟩ (fun _ h => h) <| d_then <| c_region <| g_v rfl r_move <| g_v rfl (r_add rfl rfl (show IntKind.i64.wrap (2 + 1) = 3 by decide)) <| g_v rfl r_assign <| g_nil <| d_rounds ?_
     refine c_flat [(0, .string p0), (4, .pointer (some ⟨g1, 0, none⟩)), (7, .string x2), (8, .int .i64 i31), (10, .pointer (some ⟨g8, 0, none⟩)), (11, .int .i64 3)] ⟨rfl, rfl, rfl, rfl, rfl, rfl, trivial⟩ (fun u => ?_)
     refine c_seq <| c_seq <| c_region <| g_v rfl r_move <| g_v rfl (r_lss rfl rfl) <| g_nil <| d_then <| c_cond1 rfl (by decide) <| c_skip <| d_then ?_
     refine c_seq ?_
     refine c_cut (ι := Int × Int) [0, 4, 7, 8, 10, 11] (fun ⟨i39, i40⟩ => [(8, .int .i64 i39)]) (fun ⟨i39, i40⟩ => ⟨w0, M, (100100, g8, .cells #[.int .i64 i16, .int .i64 i24, .int .i64 i32, .int .i64 i40] 93 (0, 0)) :: (100040, g1, .cells #[.string (⟨#[]⟩ : ByteArray), .int .u16 0, .int .u16 0, .int .u32 0, .string (⟨#[]⟩ : ByteArray)] 27 (0, 0)) :: H, R, φ⟩) (fun ⟨i39, i40⟩ => m_ref05_Get_j4 p0 i16 x2 i24 i32 i39 i40 = some r) ?_ (fun ⟨i39, i40⟩ u hm => ?_)
     ·
      refine c_block <| c_seq <| c_region <| g_v rfl r_assign <| g_nil <| d_then <| c_seq ?_
      refine c_cut (ι := Unit) [0, 4, 7, 8, 10, 11, 12] (fun _ => []) (fun _ => ⟨w0, M, (100100, g8, .cells #[.int .i64 i16, .int .i64 i24, .int .i64 i32, .int .i64 0] 93 (0, 0)) :: (100040, g1, .cells #[.string (⟨#[]⟩ : ByteArray), .int .u16 0, .int .u16 0, .int .u32 0, .string (⟨#[]⟩ : ByteArray)] 27 (0, 0)) :: H, R, φ⟩) (fun _ => m_ref05_Get_j8 p0 i31 i16 x2 i24 i32 = some r) ?_ (fun _ u hm => ?_)
      ·
       refine c_seq <| c_region <| g_v rfl r_move <| g_v rfl (r_eql rfl rfl) <| g_nil <| d_then <| c_cond0 rfl (by decide) <| c_skip ?_
       exact d_round () hm Nat.zero_lt_one ⟨rfl, rfl, rfl, rfl, rfl, rfl, rfl, trivial⟩ (fun W h => h.phi (fun W hφ => hφ))
      ·
       unfold m_ref05_Get_j8 at hm
       refine d_flat [(0, .string p0), (4, .pointer (some ⟨g1, 0, none⟩)), (7, .string x2), (8, .int .i64 i31), (10, .pointer (some ⟨g8, 0, none⟩)), (11, .int .i64 3), (12, .int .i64 2)] ⟨rfl, rfl, rfl, rfl, rfl, rfl, rfl, trivial⟩ (fun u => ?_)
       refine d_then <| c_seq <| c_region <| g_v rfl r_move <| g_v rfl r_move <| g_v rfl r_move ?_
       replace hm := bnd hm
       obtain ⟨⟨x179, x180, x181⟩, hx182, hm⟩ := hm
       refine g_cn ⟨w0, M, _, _, φ⟩ (fun _ h => h) Try.call64 rfl rfl (c_ref04_Number p0 i31 2 _ hx182) (fun _ _ => ?_)
       refine g_v rfl r_move <| g_v rfl (r_extract rfl rfl) <| g_v rfl (r_extract rfl rfl) <| g_v rfl (r_extract rfl rfl) <| g_v rfl r_assign <| g_v rfl r_assign <| g_v rfl r_assign <| g_nil <| d_then ?_
       refine c_flat [(0, .string p0), (4, .pointer (some ⟨g1, 0, none⟩)), (7, .string x2), (10, .pointer (some ⟨g8, 0, none⟩)), (11, .int .i64 3), (13, .int .i64 x179), (14, .int .i64 x180), (15, .int .i64 x181)] ⟨rfl, rfl, rfl, rfl, rfl, rfl, rfl, rfl, trivial⟩ (fun u => ?_)
       refine c_seq <| c_seq <| c_region <| g_v rfl r_move <| g_v rfl (r_neq rfl rfl) <| g_nil <| d_then ?_
       refine c_cond rfl (fun h184 => ?_) (fun h184 => ?_)
       ·
        replace hm := ite_t hm (of_decide_eq_true h184)
        refine c_seq <| c_region <| g_v rfl (r_build _ rfl (bld27_21)) <| g_v rfl r_move <| g_storeL (tag := 100040) rfl rfl rfl rfl Try.sizeOf27 rfl rfl <| g_v rfl r_assign <| g_v rfl r_assign <| g_nil <| d_then <| c_ret ?_
        refine d_ret_then <| d_ret_block <| d_ret_then <| d_ret_then <| d_ret_then <| d_ret_block <| d_ret_then ?_
        replace hm := Option.some.inj hm
        subst hm
        refine d_retC () Try.results19 ?_ trivial (fun W h => ok_pre (H1 := [_, _]) (R1 := []) h (fun W hφ => hφ)) (.inr rfl)
        refine res_agg (tag := 100040) rfl rfl Try.isAgg27 Try.sizeOf27 <| res_tmp <| res_tmp <| res_nil ?_
        exact rfl
       ·
        replace hm := ite_f hm (of_decide_eq_false h184)
        refine c_skip <| d_then <| c_seq <| c_region <| g_v rfl r_move <| g_v rfl r_move <| g_v rfl (r_elemH (n := 3) Try.underlying93 Try.sizeOf3 rfl rfl (by decide) (by decide) rfl) <| g_storeL (tag := 100100) rfl rfl rfl rfl Try.sizeOf3 rfl rfl <| g_nil <| d_then ?_
        refine c_region <| g_v rfl r_move <| g_v rfl r_assign <| g_nil <| d_normal_block ?_
        exact d_round (x180, x179) hm Nat.zero_lt_one ⟨rfl, rfl, rfl, rfl, rfl, rfl, trivial⟩ (fun W h => h.phi (fun W hφ => hφ))
     ·
      unfold m_ref05_Get_j4 at hm
      refine d_flat [(0, .string p0), (4, .pointer (some ⟨g1, 0, none⟩)), (7, .string x2), (8, .int .i64 i39), (10, .pointer (some ⟨g8, 0, none⟩)), (11, .int .i64 3)] ⟨rfl, rfl, rfl, rfl, rfl, rfl, trivial⟩ (fun u => ?_)
      refine d_sta ⟨w0, M, (100100, g8, .cells #[.int .i64 i16, .int .i64 i24, .int .i64 i32, .int .i64 i40] 93 (0, 0)) :: (100040, g1, .cells #[.string (⟨#[]⟩ : ByteArray), .int .u16 0, .int .u16 0, .int .u32 0, .string (⟨#[]⟩ : ByteArray)] 27 (0, 0)) :: H, R, φ⟩ (fun _ h => h) <| d_then <| c_region <| g_v rfl r_move <| g_v rfl (r_add rfl rfl (show IntKind.i64.wrap (3 + 1) = 4 by decide)) <| g_v rfl r_assign <| g_nil <| d_rounds ?_
      refine c_flat [(0, .string p0), (4, .pointer (some ⟨g1, 0, none⟩)), (7, .string x2), (8, .int .i64 i39), (10, .pointer (some ⟨g8, 0, none⟩)), (11, .int .i64 4)] ⟨rfl, rfl, rfl, rfl, rfl, rfl, trivial⟩ (fun u => ?_)
      refine c_seq <| c_seq <| c_region <| g_v rfl r_move <| g_v rfl (r_lss rfl rfl) <| g_nil <| d_then <| c_cond0 rfl (by decide) <| c_exit <| d_exit_then ?_
      refine d_exit_then <| d_exit_block <| d_then <| c_seq <| c_region <| g_v rfl r_move <| g_v rfl r_move <| g_v rfl (r_elemH (n := 3) Try.underlying93 Try.sizeOf3 rfl rfl (by decide) (by decide) rfl) <| g_v rfl (r_load (tag := 100100) rfl rfl rfl Try.isAgg3) ?_
      replace hm := bnd hm
      obtain ⟨⟨x41, x42, x43⟩, hx44, hm⟩ := hm
      refine g_cn ⟨w0, M, _, _, φ⟩ (fun _ h => h) Try.call65 rfl rfl (c_ref04_Raw p0 i39 i40 _ hx44) (fun _ _ => ?_)
      refine g_v rfl r_move <| g_v rfl (r_extract rfl rfl) <| g_v rfl (r_extract rfl rfl) <| g_v rfl (r_extract rfl rfl) <| g_v rfl r_assign <| g_v rfl r_assign <| g_v rfl r_assign <| g_nil <| d_then ?_
      refine c_flat [(0, .string p0), (4, .pointer (some ⟨g1, 0, none⟩)), (7, .string x2), (8, .int .i64 i39), (10, .pointer (some ⟨g8, 0, none⟩)), (16, .string x41), (17, .int .i64 x42), (18, .int .i64 x43)] ⟨rfl, rfl, rfl, rfl, rfl, rfl, rfl, rfl, trivial⟩ (fun u => ?_)
      refine c_seq <| c_seq <| c_region <| g_v rfl r_move <| g_v rfl (r_neq rfl rfl) <| g_nil <| d_then ?_
      refine c_cond rfl (fun h46 => ?_) (fun h46 => ?_)
      ·
       replace hm := ite_t hm (of_decide_eq_true h46)
       refine c_seq <| c_region <| g_v rfl (r_build _ rfl (bld27_21)) <| g_v rfl r_move <| g_storeL (tag := 100040) rfl rfl rfl rfl Try.sizeOf27 rfl rfl <| g_v rfl r_assign <| g_v rfl r_assign <| g_nil <| d_then <| c_ret ?_
       refine d_ret_then ?_
       replace hm := Option.some.inj hm
       subst hm
       refine d_retC () Try.results19 ?_ trivial (fun W h => ok_pre (H1 := [_, _]) (R1 := []) h (fun W hφ => hφ)) (.inr rfl)
       refine res_agg (tag := 100040) rfl rfl Try.isAgg27 Try.sizeOf27 <| res_tmp <| res_tmp <| res_nil ?_
       exact rfl
      ·
       replace hm := ite_f hm (of_decide_eq_false h46)
       refine c_skip <| d_then <| c_seq <| c_region <| g_v rfl r_move <| g_v rfl (r_elemH (n := 0) Try.underlying93 Try.sizeOf3 rfl rfl (by decide) (by decide) rfl) <| g_v rfl (r_load (tag := 100100) rfl rfl rfl Try.isAgg3) <| g_v rfl (r_conv Try.underlying3 Try.underlying24 rfl rfl) <| g_v rfl (r_elemH (n := 1) Try.underlying93 Try.sizeOf3 rfl rfl (by decide) (by decide) rfl) <| g_v rfl (r_load (tag := 100100) rfl rfl rfl Try.isAgg3) ?_
       refine g_v rfl (r_conv Try.underlying3 Try.underlying24 rfl rfl) <| g_v rfl (r_elemH (n := 2) Try.underlying93 Try.sizeOf3 rfl rfl (by decide) (by decide) rfl) <| g_v rfl (r_load (tag := 100100) rfl rfl rfl Try.isAgg3) <| g_v rfl (r_conv Try.underlying3 Try.underlying25 rfl rfl) <| g_v rfl r_move <| g_v rfl (r_build _ rfl (bld27_26 _ _ _ _ _)) ?_
       refine g_e rfl (e_alloc 100190 Try.zeroValue27) (fun g47 _ => ?_)
       refine g_storeL (tag := 100190) rfl rfl rfl rfl Try.sizeOf27 rfl rfl <| g_nil <| d_then ?_
       refine c_flat [(0, .string p0), (4, .pointer (some ⟨g1, 0, none⟩)), (8, .int .i64 i39), (17, .int .i64 x42), (19, .pointer (some ⟨g47, 0, none⟩))] ⟨rfl, rfl, rfl, rfl, rfl, trivial⟩ (fun u => ?_)
       refine c_sta ⟨w0, M, (100190, g47, .cells #[.string x2, .int .u16 (IntKind.u16.wrap i16), .int .u16 (IntKind.u16.wrap i24), .int .u32 (IntKind.u32.wrap i32), .string x41] 27 (0, 0)) :: (100100, g8, .cells #[.int .i64 i16, .int .i64 i24, .int .i64 i32, .int .i64 i40] 93 (0, 0)) :: (100040, g1, .cells #[.string (⟨#[]⟩ : ByteArray), .int .u16 0, .int .u16 0, .int .u32 0, .string (⟨#[]⟩ : ByteArray)] 27 (0, 0)) :: H, R, φ⟩ (fun _ h => h) <| c_seq <| c_region <| g_v rfl (r_field (n := 1) Try.underlying27 rfl Try.sizeOf24 rfl rfl) <| g_v rfl (r_load (tag := 100190) rfl rfl rfl Try.isAgg24) ?_
       replace hm := bnd hm
       obtain ⟨⟨x48, x49, x50, x51⟩, hx52, hm⟩ := hm
       refine g_cn ⟨w0, M, _, _, φ⟩ (fun _ h => h) Try.call66 rfl rfl (c_ref05_head (IntKind.u16.wrap i16) _ hx52) (fun _ _ => ?_)
       refine g_v rfl r_move <| g_v rfl (r_extract rfl rfl) <| g_v rfl (r_extract rfl rfl) <| g_v rfl (r_extract rfl rfl) <| g_v rfl (r_extract rfl rfl) <| g_v rfl r_assign <| g_v rfl r_assign <| g_v rfl r_assign <| g_v rfl r_assign <| g_nil ?_
       refine d_then ?_
       refine c_flat [(0, .string p0), (4, .pointer (some ⟨g1, 0, none⟩)), (8, .int .i64 i39), (17, .int .i64 x42), (19, .pointer (some ⟨g47, 0, none⟩)), (20, .int .i64 x48), (21, .int .i64 x49), (22, .int .i64 x50), (23, .bool x51)] ⟨rfl, rfl, rfl, rfl, rfl, rfl, rfl, rfl, rfl, trivial⟩ (fun u => ?_)
       refine c_seq ?_
       refine c_cut (ι := ByteArray) [4, 17, 19] (fun s97 => []) (fun s97 => ⟨w0, M, (100190, g47, .cells #[.string x2, .int .u16 (IntKind.u16.wrap i16), .int .u16 (IntKind.u16.wrap i24), .int .u32 (IntKind.u32.wrap i32), .string s97] 27 (0, 0)) :: (100040, g1, .cells #[.string (⟨#[]⟩ : ByteArray), .int .u16 0, .int .u16 0, .int .u32 0, .string (⟨#[]⟩ : ByteArray)] 27 (0, 0)) :: H, R, φ⟩) (fun s97 => m_ref05_Get_j5 x2 i16 i24 i32 x42 s97 = some r) ?_ (fun s97 u hm => ?_)
       ·
        refine c_seq <| c_region <| g_v rfl r_move <| g_nil <| d_then ?_
        refine c_cond rfl (fun h101 => ?_) (fun h101 => ?_)
        ·
         replace hm := ite_t hm h101
         refine c_seq <| c_region <| g_v rfl r_move <| g_v rfl r_move <| g_v rfl r_move ?_
         replace hm := bnd hm
         obtain ⟨⟨x102, x103, x104⟩, hx105, hm⟩ := hm
         refine g_cn ⟨w0, M, _, _, φ⟩ (fun _ h => h) Try.call65 rfl rfl (c_ref04_Raw p0 i39 x48 _ hx105) (fun _ _ => ?_)
         refine g_v rfl r_move <| g_v rfl (r_extract rfl rfl) <| g_v rfl (r_extract rfl rfl) <| g_v rfl (r_extract rfl rfl) <| g_v rfl r_assign <| g_v rfl r_assign <| g_v rfl r_assign <| g_nil <| d_then ?_
         refine c_flat [(0, .string p0), (4, .pointer (some ⟨g1, 0, none⟩)), (17, .int .i64 x42), (19, .pointer (some ⟨g47, 0, none⟩)), (21, .int .i64 x49), (22, .int .i64 x50), (24, .string x102), (25, .int .i64 x103), (26, .int .i64 x104)] ⟨rfl, rfl, rfl, rfl, rfl, rfl, rfl, rfl, rfl, trivial⟩ (fun u => ?_)
         refine c_seq <| c_seq <| c_region <| g_v rfl r_move <| g_v rfl (r_neq rfl rfl) <| g_nil <| d_then ?_
         refine c_cond rfl (fun h107 => ?_) (fun h107 => ?_)
         ·
          replace hm := ite_t hm (of_decide_eq_true h107)
          refine c_seq <| c_region <| g_v rfl (r_build _ rfl (bld27_21)) <| g_v rfl r_move <| g_storeL (tag := 100040) rfl rfl rfl rfl Try.sizeOf27 rfl rfl <| g_v rfl r_assign <| g_v rfl r_assign <| g_nil <| d_then <| c_ret ?_
          refine d_ret_then <| d_ret_then <| d_ret_then ?_
          replace hm := Option.some.inj hm
          subst hm
          refine d_retC () Try.results19 ?_ trivial (fun W h => ok_pre (H1 := [_, _, _]) (R1 := []) h (fun W hφ => hφ)) (.inr rfl)
          refine res_agg (tag := 100040) rfl rfl Try.isAgg27 Try.sizeOf27 <| res_tmp <| res_tmp <| res_nil ?_
          exact rfl
         ·
          replace hm := ite_f hm (of_decide_eq_false h107)
          refine c_skip <| d_then <| c_seq <| c_seq <| c_region <| g_v rfl r_assign <| g_nil <| d_then ?_
          refine c_cut (ι := ByteArray × Int) [0, 4, 17, 19, 22, 24, 25] (fun ⟨s134, i135⟩ => [(24, .string s134), (25, .int .i64 i135)]) (fun ⟨s134, i135⟩ => ⟨w0, M, (100190, g47, .cells #[.string x2, .int .u16 (IntKind.u16.wrap i16), .int .u16 (IntKind.u16.wrap i24), .int .u32 (IntKind.u32.wrap i32), .string x41] 27 (0, 0)) :: (100040, g1, .cells #[.string (⟨#[]⟩ : ByteArray), .int .u16 0, .int .u16 0, .int .u32 0, .string (⟨#[]⟩ : ByteArray)] 27 (0, 0)) :: H, R, φ⟩) (fun ⟨s134, i135⟩ => m_ref05_Get_j6 p0 x50 x42 x2 i16 i24 i32 s134 i135 = some r) ?_ (fun ⟨s134, i135⟩ u hm => ?_)
          ·
           refine c_block ?_
           replace hm := bnd hm
           obtain ⟨out7, hl7, hr7⟩ := hm
           obtain ⟨n169', hl7⟩ := loop_lp hl7
           refine c_loopU (ι := Nat × ByteArray × Int × Int) [0, 4, 17, 19, 21, 22, 24, 25, 27] (fun ⟨n169, s155, i156, i157⟩ => [(24, .string s155), (25, .int .i64 i156), (27, .int .i64 i157)]) (fun ⟨n169, s155, i156, i157⟩ => ⟨w0, M, (100190, g47, .cells #[.string x2, .int .u16 (IntKind.u16.wrap i16), .int .u16 (IntKind.u16.wrap i24), .int .u32 (IntKind.u32.wrap i32), .string x41] 27 (0, 0)) :: (100040, g1, .cells #[.string (⟨#[]⟩ : ByteArray), .int .u16 0, .int .u16 0, .int .u32 0, .string (⟨#[]⟩ : ByteArray)] 27 (0, 0)) :: H, R, φ⟩) (fun ⟨n169, s155, i156, i157⟩ => Lp (fun s => m_ref05_Get_s7 x49 p0 s.1 s.2.1 s.2.2) n169 (s155, i156, i157) out7) (fun ⟨n169, s155, i156, i157⟩ => n169) (n169', x102, x103, 0) hl7 ⟨rfl, rfl, rfl, rfl, rfl, rfl, rfl, rfl, rfl, trivial⟩ (fun W h => (h.dropH (t := 100100) rfl).phi (fun W hφ => hφ)) (fun ⟨n169, s155, i156, i157⟩ u hlp => ?_)
           obtain ⟨o7, hm, hnx7⟩ := lp_step hlp
           clear hlp
           replace hm : m_ref05_Get_s7 x49 p0 s155 i156 i157 = some o7 := hm
           unfold m_ref05_Get_s7 at hm
           refine c_flat [(0, .string p0), (4, .pointer (some ⟨g1, 0, none⟩)), (17, .int .i64 x42), (19, .pointer (some ⟨g47, 0, none⟩)), (21, .int .i64 x49), (22, .int .i64 x50), (24, .string s155), (25, .int .i64 i156), (27, .int .i64 i157)] ⟨rfl, rfl, rfl, rfl, rfl, rfl, rfl, rfl, rfl, trivial⟩ (fun u => ?_)
           refine c_sta ⟨w0, M, (100190, g47, .cells #[.string x2, .int .u16 (IntKind.u16.wrap i16), .int .u16 (IntKind.u16.wrap i24), .int .u32 (IntKind.u32.wrap i32), .string x41] 27 (0, 0)) :: (100040, g1, .cells #[.string (⟨#[]⟩ : ByteArray), .int .u16 0, .int .u16 0, .int .u32 0, .string (⟨#[]⟩ : ByteArray)] 27 (0, 0)) :: H, R, φ⟩ (fun _ h => h) <| c_seq <| c_seq <| c_region <| g_v rfl r_move <| g_v rfl r_move <| g_v rfl (r_lss rfl rfl) <| g_nil <| d_then ?_
           refine c_cond rfl (fun h170 => ?_) (fun h170 => ?_)
           ·
            replace hm := ite_t hm (of_decide_eq_true h170)
            refine c_skip <| d_then <| c_seq <| c_block <| c_seq <| c_region <| g_v rfl r_move <| g_v rfl r_move ?_
            replace hm := bnd hm
            obtain ⟨⟨x171, x172, x173⟩, hx174, hm⟩ := hm
            refine g_cn ⟨w0, M, _, _, φ⟩ (fun _ h => h) Try.call63 rfl rfl (c_ref04_Name p0 i156 _ hx174) (fun _ _ => ?_)
            refine g_v rfl r_move <| g_v rfl (r_extract rfl rfl) <| g_v rfl (r_extract rfl rfl) <| g_v rfl (r_extract rfl rfl) <| g_v rfl r_assign <| g_v rfl r_assign <| g_v rfl r_assign <| g_nil <| d_then ?_
            refine c_flat [(0, .string p0), (4, .pointer (some ⟨g1, 0, none⟩)), (17, .int .i64 x42), (19, .pointer (some ⟨g47, 0, none⟩)), (21, .int .i64 x49), (22, .int .i64 x50), (24, .string s155), (27, .int .i64 i157), (28, .string x171), (29, .int .i64 x172), (30, .int .i64 x173)] ⟨rfl, rfl, rfl, rfl, rfl, rfl, rfl, rfl, rfl, rfl, rfl, trivial⟩ (fun u => ?_)
            refine c_seq <| c_seq <| c_region <| g_v rfl r_move <| g_v rfl (r_neq rfl rfl) <| g_nil <| d_then ?_
            refine c_cond rfl (fun h176 => ?_) (fun h176 => ?_)
            ·
             replace hm := ite_t hm (of_decide_eq_true h176)
             refine c_seq <| c_region <| g_v rfl (r_build _ rfl (bld27_21)) <| g_v rfl r_move <| g_storeL (tag := 100040) rfl rfl rfl rfl Try.sizeOf27 rfl rfl <| g_v rfl r_assign <| g_v rfl r_assign <| g_nil <| d_then <| c_ret ?_
             refine d_ret_then <| d_ret_block <| d_ret_then <| d_ret_then <| d_ret_block <| d_ret_then <| d_ret_then <| d_ret_then <| d_ret_then ?_
             replace hm := nx_out (C := (fun e => Sum.elim (fun e => m_ref05_Get_j6 p0 x50 x42 x2 i16 i24 i32 e.1 e.2) (fun x => some x) e = some r)) hm hnx7 hr7
             replace hm : some ((⟨(⟨#[]⟩ : ByteArray), 0, 0, 0, (⟨#[]⟩ : ByteArray)⟩ : GRR), 0, x173) = some r := hm
             replace hm := Option.some.inj hm
             subst hm
             refine d_retC () Try.results19 ?_ trivial (fun W h => ok_pre (H1 := [_, _]) (R1 := []) h (fun W hφ => hφ)) (.inr rfl)
             refine res_agg (tag := 100040) rfl rfl Try.isAgg27 Try.sizeOf27 <| res_tmp <| res_tmp <| res_nil ?_
             exact rfl
            ·
             replace hm := ite_f hm (of_decide_eq_false h176)
             refine c_skip <| d_then <| c_seq <| c_region <| g_v rfl r_move <| g_v rfl r_move ?_
             replace hm := bnd hm
             obtain ⟨s177, hs177, hm⟩ := hm
             refine g_v rfl (r_addT rfl rfl hs177) <| g_v rfl r_assign <| g_nil <| d_then <| c_region <| g_v rfl r_move <| g_v rfl r_assign <| g_nil <| d_normal_block <| d_then ?_
             refine c_region <| g_v rfl r_move <| g_v rfl (r_add rfl rfl rfl) <| g_v rfl r_assign <| g_nil ?_
             obtain ⟨n178, hn178, hlp⟩ := nx_inl hm hnx7
             exact d_round (n178, s177, x172, w64 (i157 + 1)) hlp hn178 ⟨rfl, rfl, rfl, rfl, rfl, rfl, rfl, rfl, rfl, trivial⟩ (fun W h => h.phi (fun W hφ => hφ))
           ·
            replace hm := ite_f hm (of_decide_eq_false h170)
            refine c_exit <| d_exit_then <| d_exit_then <| d_exit_block ?_
            replace hm := nx_out (C := (fun e => Sum.elim (fun e => m_ref05_Get_j6 p0 x50 x42 x2 i16 i24 i32 e.1 e.2) (fun x => some x) e = some r)) hm hnx7 hr7
            exact d_round (s155, i156) hm Nat.zero_lt_one ⟨rfl, rfl, rfl, rfl, rfl, rfl, rfl, trivial⟩ (fun W h => h.phi (fun W hφ => hφ))
          ·
           unfold m_ref05_Get_j6 at hm
           refine d_flat [(0, .string p0), (4, .pointer (some ⟨g1, 0, none⟩)), (17, .int .i64 x42), (19, .pointer (some ⟨g47, 0, none⟩)), (22, .int .i64 x50), (24, .string s134), (25, .int .i64 i135)] ⟨rfl, rfl, rfl, rfl, rfl, rfl, rfl, trivial⟩ (fun u => ?_)
           refine d_sta ⟨w0, M, (100190, g47, .cells #[.string x2, .int .u16 (IntKind.u16.wrap i16), .int .u16 (IntKind.u16.wrap i24), .int .u32 (IntKind.u32.wrap i32), .string x41] 27 (0, 0)) :: (100040, g1, .cells #[.string (⟨#[]⟩ : ByteArray), .int .u16 0, .int .u16 0, .int .u32 0, .string (⟨#[]⟩ : ByteArray)] 27 (0, 0)) :: H, R, φ⟩ (fun _ h => h) <| d_then <| c_seq <| c_region <| g_v rfl r_move <| g_v rfl r_move <| g_v rfl r_move ?_
           replace hm := bnd hm
           obtain ⟨⟨x136, x137, x138⟩, hx139, hm⟩ := hm
           refine g_cn ⟨w0, M, _, _, φ⟩ (fun _ h => h) Try.call65 rfl rfl (c_ref04_Raw p0 i135 x50 _ hx139) (fun _ _ => ?_)
           refine g_v rfl r_move <| g_v rfl (r_extract rfl rfl) <| g_v rfl (r_extract rfl rfl) <| g_v rfl (r_extract rfl rfl) <| g_v rfl r_assign <| g_v rfl r_assign <| g_v rfl r_assign <| g_nil <| d_then ?_
           refine c_flat [(4, .pointer (some ⟨g1, 0, none⟩)), (17, .int .i64 x42), (19, .pointer (some ⟨g47, 0, none⟩)), (24, .string s134), (26, .int .i64 x138), (31, .string x136), (32, .int .i64 x137)] ⟨rfl, rfl, rfl, rfl, rfl, rfl, rfl, trivial⟩ (fun u => ?_)
           refine c_seq <| c_seq <| c_region <| g_v rfl r_move <| g_v rfl (r_neq rfl rfl) <| g_nil <| d_then ?_
           refine c_cond rfl (fun h141 => ?_) (fun h141 => ?_)
           ·
            replace hm := ite_t hm (of_decide_eq_true h141)
            refine c_seq <| c_region <| g_v rfl (r_build _ rfl (bld27_21)) <| g_v rfl r_move <| g_storeL (tag := 100040) rfl rfl rfl rfl Try.sizeOf27 rfl rfl <| g_v rfl r_assign <| g_v rfl r_assign <| g_nil <| d_then <| c_ret ?_
            refine d_ret_then <| d_ret_then <| d_ret_then ?_
            replace hm := Option.some.inj hm
            subst hm
            refine d_retC () Try.results19 ?_ trivial (fun W h => ok_pre (H1 := [_, _]) (R1 := []) h (fun W hφ => hφ)) (.inr rfl)
            refine res_agg (tag := 100040) rfl rfl Try.isAgg27 Try.sizeOf27 <| res_tmp <| res_tmp <| res_nil ?_
            exact rfl
           ·
            replace hm := ite_f hm (of_decide_eq_false h141)
            refine c_skip <| d_then <| c_seq <| c_seq <| c_region <| g_v rfl r_move <| g_v rfl r_move <| g_v rfl (r_neq rfl rfl) <| g_nil <| d_then ?_
            refine c_cond rfl (fun h142 => ?_) (fun h142 => ?_)
            ·
             replace hm := ite_t hm (of_decide_eq_true h142)
             refine c_seq <| c_region <| g_v rfl (r_build _ rfl (bld27_21)) <| g_storeL (tag := 100040) rfl rfl rfl rfl Try.sizeOf27 rfl rfl <| g_v rfl r_assign <| g_v rfl r_assign <| g_nil <| d_then ?_
             refine c_flat [(4, .pointer (some ⟨g1, 0, none⟩)), (5, .int .i64 0), (6, .int .i64 10)] ⟨rfl, rfl, rfl, trivial⟩ (fun u => ?_)
             refine c_ret <| d_ret_then <| d_ret_then <| d_ret_then ?_
             replace hm := Option.some.inj hm
             subst hm
             refine d_retC () Try.results19 ?_ trivial (fun W h => ok_pre (H1 := [_, _]) (R1 := []) h (fun W hφ => hφ)) (.inr rfl)
             refine res_agg (tag := 100040) rfl rfl Try.isAgg27 Try.sizeOf27 <| res_tmp <| res_tmp <| res_nil ?_
             exact rfl
            ·
             replace hm := ite_f hm (of_decide_eq_false h142)
             refine c_skip <| d_then <| c_region <| g_v rfl r_move <| g_v rfl r_move ?_
             replace hm := bnd hm
             obtain ⟨s143, hs143, hm⟩ := hm
             refine g_v rfl (r_addT rfl rfl hs143) <| g_v rfl (r_field (n := 4) Try.underlying27 rfl Try.sizeOf9 rfl rfl) <| g_storeL (tag := 100190) rfl rfl rfl rfl Try.sizeOf9 rfl rfl <| g_nil ?_
             exact d_round s143 hm Nat.zero_lt_one ⟨rfl, rfl, rfl, trivial⟩ (fun W h => h.phi (fun W hφ => hφ))
        ·
         replace hm := ite_f hm (bool_nt h101)
         refine c_skip ?_
         exact d_round x41 hm Nat.zero_lt_one ⟨rfl, rfl, rfl, trivial⟩ (fun W h => (h.dropH (t := 100100) rfl).phi (fun W hφ => hφ))
       ·
        unfold m_ref05_Get_j5 at hm
        refine d_flat [(4, .pointer (some ⟨g1, 0, none⟩)), (17, .int .i64 x42), (19, .pointer (some ⟨g47, 0, none⟩))] ⟨rfl, rfl, rfl, trivial⟩ (fun u => ?_)
        refine d_sta ⟨w0, M, (100190, g47, .cells #[.string x2, .int .u16 (IntKind.u16.wrap i16), .int .u16 (IntKind.u16.wrap i24), .int .u32 (IntKind.u32.wrap i32), .string s97] 27 (0, 0)) :: (100040, g1, .cells #[.string (⟨#[]⟩ : ByteArray), .int .u16 0, .int .u16 0, .int .u32 0, .string (⟨#[]⟩ : ByteArray)] 27 (0, 0)) :: H, R, φ⟩ (fun _ h => h) <| d_then <| c_seq <| c_region <| g_v rfl (r_loadA (tag := 100190) rfl rfl Try.isAgg27 Try.sizeOf27 rfl rfl) ?_
        replace hm := bnd hm
        obtain ⟨x98, hx99, hm⟩ := hm
        refine g_cn ⟨w0, M, _, _, φ⟩ (fun _ h => h) Try.call32 rfl rfl (c_ref05_Check (⟨x2, IntKind.u16.wrap i16, IntKind.u16.wrap i24, IntKind.u32.wrap i32, s97⟩ : GRR) _ hx99) (fun _ _ => ?_)
        refine g_v rfl r_assign <| g_nil <| d_then <| c_seq <| c_seq <| c_region <| g_v rfl r_move <| g_v rfl (r_neq rfl rfl) <| g_nil <| d_then ?_
        refine c_cond rfl (fun h100 => ?_) (fun h100 => ?_)
        ·
         replace hm := ite_t hm (of_decide_eq_true h100)
         refine c_seq <| c_region <| g_v rfl (r_build _ rfl (bld27_21)) <| g_v rfl r_move <| g_storeL (tag := 100040) rfl rfl rfl rfl Try.sizeOf27 rfl rfl <| g_v rfl r_assign <| g_v rfl r_assign <| g_nil <| d_then ?_
         refine c_flat [(4, .pointer (some ⟨g1, 0, none⟩)), (5, .int .i64 0), (6, .int .i64 x98)] ⟨rfl, rfl, rfl, trivial⟩ (fun u => ?_)
         refine c_ret <| d_ret_then ?_
         replace hm := Option.some.inj hm
         subst hm
         refine d_retC () Try.results19 ?_ trivial (fun W h => ok_pre (H1 := [_, _]) (R1 := []) h (fun W hφ => hφ)) (.inr rfl)
         refine res_agg (tag := 100040) rfl rfl Try.isAgg27 Try.sizeOf27 <| res_tmp <| res_tmp <| res_nil ?_
         exact rfl
        ·
         replace hm := ite_f hm (of_decide_eq_false h100)
         refine c_skip <| d_then <| c_seq <| c_region <| g_v rfl (r_loadA (tag := 100190) rfl rfl Try.isAgg27 Try.sizeOf27 rfl rfl) <| g_v rfl r_move <| g_storeL (tag := 100040) rfl rfl rfl rfl Try.sizeOf27 rfl rfl <| g_v rfl r_assign <| g_v rfl r_assign <| g_nil ?_
         refine d_then ?_
         refine c_flat [(4, .pointer (some ⟨g1, 0, none⟩)), (5, .int .i64 x42), (6, .int .i64 0)] ⟨rfl, rfl, rfl, trivial⟩ (fun u => ?_)
         refine c_sta ⟨w0, M, (100190, g47, .cells #[.string x2, .int .u16 (IntKind.u16.wrap i16), .int .u16 (IntKind.u16.wrap i24), .int .u32 (IntKind.u32.wrap i32), .string s97] 27 (0, 0)) :: (100040, g1, .cells #[.string x2, .int .u16 (IntKind.u16.wrap i16), .int .u16 (IntKind.u16.wrap i24), .int .u32 (IntKind.u32.wrap i32), .string s97] 27 (0, 0)) :: H, R, φ⟩ (fun _ h => h) <| c_ret ?_
         replace hm := Option.some.inj hm
         subst hm
         refine d_retC () Try.results19 ?_ trivial (fun W h => ok_pre (H1 := [_, _]) (R1 := []) h (fun W hφ => hφ)) (.inr rfl)
         refine res_agg (tag := 100040) rfl rfl Try.isAgg27 Try.sizeOf27 <| res_tmp <| res_tmp <| res_nil ?_
         exact rfl
noncomputable def m_ref06_records_j1  (l95 : List GRR) (i98 : Int) : Option ((List GRR) × Int × Int) :=
  some (l95, i98, 0)
noncomputable def m_ref06_records_s2 (p2 : Int) (p0 : ByteArray) (l116 : List GRR) (i119 : Int) (i120 : Int) : Option (((List GRR) × Int × Int) ⊕ (((List GRR) × Int) ⊕ ((List GRR) × Int × Int))) :=
  if i120 < p2 then
    (m_ref05_Get p0 i119).bind fun (z144 : GRR × Int × Int) =>
    if z144.2.2 ≠ 0 then
      some (.inr (.inr (([] : List GRR), 0, z144.2.2)))
    else
      (app 40 l116 [z144.1]).bind fun l148 =>
      some (.inl (l148, z144.2.1, w64 (i120 + 1)))
  else
    some (.inr (.inl (l116, i119)))
noncomputable def m_ref06_records (p0 : ByteArray) (p1 : Int) (p2 : Int) : Option ((List GRR) × Int × Int) :=
  (loop (fun s => m_ref06_records_s2 p2 p0 s.1 s.2.1 s.2.2) (([] : List GRR), p1, 0)).bind fun e => Sum.elim (fun e => m_ref06_records_j1 e.1 e.2) (fun x => some x) e
theorem c_ref06_records {w0 : World} {M : Nat → Prop} {H : List (Nat × Nat × Obj)} {R : List (Nat × Row)} {φ : World → Prop} (p0 : ByteArray) (p1 : Int) (p2 : Int) (r : (List GRR) × Int × Int) (hm : m_ref06_records p0 p1 p2 = some r) :
    Cn Try.prog 92 #[.string p0, .int .i64 p1, .int .i64 p2] ⟨w0, M, H, R, φ⟩ (fun x : Option Addr × Nat => .tuple #[.slice x.1 r.1.length x.2, .int .i64 r.2.1, .int .i64 r.2.2]) (fun x => r.1.length ≤ x.2) (fun x => ⟨w0, M, H, (2000, ⟨.slice x.1 r.1.length x.2, 27, 5, r.1.length, r.1.flatMap GRR.enc⟩) :: R, φ⟩) := by
 unfold m_ref06_records at hm
 refine cn_intro (fn := Try.f92) (N := 36) Try.func92 rfl Try.ntmps92 rfl <| c_seq <| c_region <| g_v rfl r_assign <| g_v rfl r_assign <| g_v rfl r_assign <| g_nil <| d_then <| c_seq <| c_region ?_
 refine g_v rfl r_assign <| g_nil <| d_then <| c_seq <| c_seq <| c_region <| g_v rfl r_assign <| g_nil <| d_then <| c_sta _ (fun W h => nilR h 16 27 5) ?_
 refine c_cut (ι := (List GRR) × Int × Option Addr × Nat) [1, 9] (fun ⟨l95, i98, A96, c97⟩ => [(1, .int .i64 i98), (9, .slice A96 l95.length c97)]) (fun ⟨l95, i98, A96, c97⟩ => ⟨w0, M, H, (16, ⟨.slice A96 l95.length c97, 27, 5, l95.length, l95.flatMap GRR.enc⟩) :: R, φ⟩) (fun ⟨l95, i98, A96, c97⟩ => m_ref06_records_j1 l95 i98 = some r ∧ l95.length ≤ c97) ?_ (fun ⟨l95, i98, A96, c97⟩ u ⟨hm, hc97⟩ => ?_)
 ·
  refine c_block ?_
  replace hm := bnd hm
  obtain ⟨out2, hl2, hr2⟩ := hm
  obtain ⟨n138', hl2⟩ := loop_lp hl2
  refine c_loopU (ι := Nat × (List GRR) × Int × Int × Option Addr × Nat) [0, 1, 2, 9, 10] (fun ⟨n138, l116, i119, i120, A117, c118⟩ => [(1, .int .i64 i119), (9, .slice A117 l116.length c118), (10, .int .i64 i120)]) (fun ⟨n138, l116, i119, i120, A117, c118⟩ => ⟨w0, M, H, (16, ⟨.slice A117 l116.length c118, 27, 5, l116.length, l116.flatMap GRR.enc⟩) :: R, φ⟩) (fun ⟨n138, l116, i119, i120, A117, c118⟩ => Lp (fun s => m_ref06_records_s2 p2 p0 s.1 s.2.1 s.2.2) n138 (l116, i119, i120) out2 ∧ l116.length ≤ c118) (fun ⟨n138, l116, i119, i120, A117, c118⟩ => n138) (n138', ([] : List GRR), p1, 0, none, 0) ⟨hl2, (Nat.le_refl 0)⟩ ⟨rfl, rfl, rfl, rfl, rfl, trivial⟩ (fun W h => h.phi (fun W hφ => hφ)) (fun ⟨n138, l116, i119, i120, A117, c118⟩ u ⟨hlp, hc118⟩ => ?_)
  obtain ⟨o2, hm, hnx2⟩ := lp_step hlp
  clear hlp
  replace hm : m_ref06_records_s2 p2 p0 l116 i119 i120 = some o2 := hm
  unfold m_ref06_records_s2 at hm
  refine c_flat [(0, .string p0), (1, .int .i64 i119), (2, .int .i64 p2), (9, .slice A117 l116.length c118), (10, .int .i64 i120)] ⟨rfl, rfl, rfl, rfl, rfl, trivial⟩ (fun u => ?_)
  refine c_sta ⟨w0, M, H, (16, ⟨.slice A117 l116.length c118, 27, 5, l116.length, l116.flatMap GRR.enc⟩) :: R, φ⟩ (fun _ h => h) <| c_seq <| c_seq <| c_region <| g_v rfl r_move <| g_v rfl r_move <| g_v rfl (r_lss rfl rfl) <| g_nil <| d_then ?_
  refine c_cond rfl (fun h139 => ?_) (fun h139 => ?_)
  ·
   replace hm := ite_t hm (of_decide_eq_true h139)
   refine c_skip <| d_then <| c_seq <| c_block <| c_seq <| c_region <| g_v rfl r_move <| g_v rfl r_move ?_
   replace hm := bnd hm
   obtain ⟨⟨x140, x141, x142⟩, hx143, hm⟩ := hm
   refine g_cn ⟨w0, M, _, _, φ⟩ (fun _ h => h) Try.call19 rfl rfl (c_ref05_Get p0 i119 _ hx143) (fun _ _ => ?_)
   refine g_v rfl r_move <| g_v rfl (r_extract rfl rfl) <| g_v rfl (r_extract rfl rfl) <| g_v rfl (r_extract rfl rfl) ?_
   refine g_e rfl (e_alloc 100110 Try.zeroValue27) (fun g145 _ => ?_)
   refine g_storeL (tag := 100110) rfl rfl rfl rfl Try.sizeOf27 rfl rfl <| g_v rfl r_assign <| g_v rfl r_assign <| g_nil <| d_then ?_
   refine c_flat [(0, .string p0), (2, .int .i64 p2), (9, .slice A117 l116.length c118), (10, .int .i64 i120), (11, .pointer (some ⟨g145, 0, none⟩)), (12, .int .i64 x141), (13, .int .i64 x142)] ⟨rfl, rfl, rfl, rfl, rfl, rfl, rfl, trivial⟩ (fun u => ?_)
   refine c_sta ⟨w0, M, (100110, g145, .cells #[.string x140.fName, .int .u16 x140.fType, .int .u16 x140.fClass, .int .u32 x140.fTTL, .string x140.fData] 27 (0, 0)) :: H, (16, ⟨.slice A117 l116.length c118, 27, 5, l116.length, l116.flatMap GRR.enc⟩) :: R, φ⟩ (fun _ h => h) <| c_seq <| c_seq <| c_region <| g_v rfl r_move <| g_v rfl (r_neq rfl rfl) <| g_nil <| d_then ?_
   refine c_cond rfl (fun h146 => ?_) (fun h146 => ?_)
   ·
    replace hm := ite_t hm (of_decide_eq_true h146)
    refine c_seq <| c_region <| g_v rfl r_move <| g_v rfl r_assign <| g_v rfl r_assign <| g_v rfl r_assign <| g_nil <| d_then <| c_ret <| d_ret_then ?_
    refine d_ret_block <| d_ret_then <| d_ret_then <| d_ret_block <| d_ret_then <| d_ret_then ?_
    replace hm := nx_out (C := (fun e => Sum.elim (fun e => m_ref06_records_j1 e.1 e.2) (fun x => some x) e = some r)) hm hnx2 hr2
    replace hm : some (([] : List GRR), 0, x142) = some r := hm
    replace hm := Option.some.inj hm
    subst hm
    refine d_sta _ (fun W h => nilR h 21 27 5) <| d_sta _ (fun W h => ok_frontR (t := 21) (t' := 2000) h rfl) ?_
    refine d_retC (none, 0) Try.results92 ?_ (Nat.le_refl 0) (fun W h => ((h.dropR (t := 16) rfl).dropH (t := 100110) rfl).phi (fun W hφ => hφ)) (.inr rfl)
    refine res_tmp <| res_tmp <| res_tmp <| res_nil ?_
    exact rfl
   ·
    replace hm := ite_f hm (of_decide_eq_false h146)
    refine c_skip <| d_then <| c_seq <| c_region <| g_v rfl r_move <| g_v rfl (r_loadA (tag := 100110) rfl rfl Try.isAgg27 Try.sizeOf27 rfl rfl) ?_
    refine g_e rfl (e_lit (tag := 100310) (l := [x140]) (enc := GRR.enc) (sz := 5) rfl Try.underlying32 (lit27_22 _ _ _ _ _) rfl rfl (fun _ => rfl)) (fun g147 _ => ?_)
    replace hm := bnd hm
    obtain ⟨l148, hl148, hm⟩ := hm
    refine g_e rfl (e_appR (enc := GRR.enc) (l := l116) (l1 := [x140]) (l2 := l148) (tag := 16) Try.underlying32 inf27_23 rfl (by decide) (by decide) (fun _ => rfl) (fun _ => rfl) rfl hc118 rfl rfl (fun W hS => rowCl (tag := 100310) rfl W hS) hl148) (fun ⟨A149, c150⟩ hc150 => ?_)
    refine g_v rfl r_assign <| g_nil <| d_then <| c_region <| g_v rfl r_move <| g_v rfl r_assign <| g_nil <| d_normal_block <| d_then ?_
    refine c_flat [(0, .string p0), (1, .int .i64 x141), (2, .int .i64 p2), (9, .slice A149 l148.length c150), (10, .int .i64 i120)] ⟨rfl, rfl, rfl, rfl, rfl, trivial⟩ (fun u => ?_)
    refine c_sta ⟨w0, M, (100110, g145, .cells #[.string x140.fName, .int .u16 x140.fType, .int .u16 x140.fClass, .int .u32 x140.fTTL, .string x140.fData] 27 (0, 0)) :: H, (100310, ⟨.slice (some ⟨g147, 0, none⟩) [x140].length 1, 27, 5, [x140].length, [x140].flatMap GRR.enc⟩) :: (16, ⟨.slice A149 l148.length c150, 27, 5, l148.length, l148.flatMap GRR.enc⟩) :: R, φ⟩ (fun _ h => h) <| c_region <| g_v rfl r_move <| g_v rfl (r_add rfl rfl rfl) <| g_v rfl r_assign <| g_nil ?_
    obtain ⟨n151, hn151, hlp⟩ := nx_inl hm hnx2
    exact d_round (n151, l148, x141, w64 (i120 + 1), A149, c150) ⟨hlp, hc150⟩ hn151 ⟨rfl, rfl, rfl, rfl, rfl, trivial⟩ (fun W h => ((h.dropR (t := 100310) rfl).dropH (t := 100110) rfl).phi (fun W hφ => hφ))
  ·
   replace hm := ite_f hm (of_decide_eq_false h139)
   refine c_exit <| d_exit_then <| d_exit_then <| d_exit_block ?_
   replace hm := nx_out (C := (fun e => Sum.elim (fun e => m_ref06_records_j1 e.1 e.2) (fun x => some x) e = some r)) hm hnx2 hr2
   exact d_round (l116, i119, A117, c118) ⟨hm, hc118⟩ Nat.zero_lt_one ⟨rfl, rfl, trivial⟩ (fun W h => h.phi (fun W hφ => hφ))
 ·
  unfold m_ref06_records_j1 at hm
  refine d_flat [(1, .int .i64 i98), (9, .slice A96 l95.length c97)] ⟨rfl, rfl, trivial⟩ (fun u => ?_)
  refine d_sta ⟨w0, M, H, (16, ⟨.slice A96 l95.length c97, 27, 5, l95.length, l95.flatMap GRR.enc⟩) :: R, φ⟩ (fun _ h => h) <| d_then <| c_seq <| c_region <| g_v rfl r_move <| g_v rfl r_move <| g_v rfl r_assign <| g_v rfl r_assign <| g_v rfl r_assign <| g_nil ?_
  refine d_then <| c_ret ?_
  replace hm := Option.some.inj hm
  subst hm
  refine d_sta _ (fun W h => ok_frontR (t := 16) (t' := 2000) h rfl) ?_
  refine d_retC (A96, c97) Try.results92 ?_ hc97 (fun W h => h.phi (fun W hφ => hφ)) (.inr rfl)
  refine res_tmp <| res_tmp <| res_tmp <| res_nil ?_
  exact rfl
end Go.Proofs.Ytpdhdpefdgndeaa
